import Derived.Test.YtlljehkmemajkaaMP
import Derived.Test.YtlljehkmemajkaaML2
set_option maxRecDepth 100000
set_option maxHeartbeats 2000000
set_option linter.unusedVariables false
set_option linter.unusedSimpArgs false
set_option linter.unusedSectionVars false
namespace Go.Am
open Go
theorem bt {α β:Type} {o:Option α} {f:α->Option β} {v:α} {r:Option β} (h:o=some v) (h2:f v=r):o.bind f=r:=by rw [h];exact h2
theorem cnT {α:Type} {b:Bool} {x y r:α} (h:b=true) (h2:x=r):(bif b then x else y)=r:=by rw [h];exact h2
theorem cnF {α:Type} {b:Bool} {x y r:α} (h:b=false) (h2:y=r):(bif b then x else y)=r:=by rw [h];exact h2
theorem ckT {b:Bool} (h:b=true):ck b=some ():=by subst h;rfl
theorem nkF {b:Bool} (h:b=false):nk b=some ():=by subst h;rfl
theorem bck {β:Type} {b:Bool} {f:Unit->Option β} {r:Option β} (h:b=true) (h2:f ()=r):(ck b).bind f=r:=bt (ckT h) h2
theorem bnk {β:Type} {b:Bool} {f:Unit->Option β} {r:Option β} (h:b=false) (h2:f ()=r):(nk b).bind f=r:=bt (nkF h) h2
abbrev cA3:Cod (Int×Int×Int):=cG (lc (cI .i64) (lc (cI .i64) (l1 (cI .i64))))
abbrev eT (l:List Ac):List D:=enc cA3 l
def eP (P:Pg):List D:=enc (cL 3) (P.map (enc cA3))
abbrev a0q (l:List Int):List D:=enc (cI .i64) l
def a0D (t:List (List Int)):List D:=enc (cL 1) (t.map (enc (cI .i64)))
@[simp] theorem b9H (P:Pg):(eP P).length=P.length:=by simp [eP]
@[simp] theorem b7C (t:List (List Int)):(a0D t).length=t.length:=by simp [a0D]
theorem a1G {P:Pg} {i:Nat} {r:List Ac} (h:P[i]?=some r):gt Ar.std (cL 3) (eP P) (i:Int)=some (eT r):=a4y h
theorem b9I {P:Pg} {i:Int} {r:List Ac} (h0:0<=i) (h:P[i.toNat]?=some r):gt Ar.std (cL 3) (eP P) i=some (eT r):=a9M h0 h
theorem a7C {t:List (List Int)} {i:Nat} {r:List Int} (h:t[i]?=some r):gt Ar.std (cL 1) (a0D t) (i:Int)=some (a0q r):=a4y h
def a2q (P:Pg):Prop:=P.length<=5 /\ ∀ t∈P,t.length<=20
def btw (a b c:Int):Bool:=decide (a<=b)&&decide (b<=c)
def a6k (a:Ac):Bool:=bif decide (a.1=1) then btw 0 a.2.1 2&&decide (a.2.2=0) else bif decide (a.1=2) then btw 0 a.2.1 2&&btw 0 a.2.2 3 else decide (a=(3,0,0))
def wk (a:Ac):Bool := !decide (a.1=3)
def ld (a:Ac):Bool:=decide (a.1=1)
def nWk (t:List Ac):Nat:=t.countP wk
def nLd (t:List Ac):Nat:=t.countP ld
def a8Y (t:List Ac):Bool:=decide (t.length<=7)&&t.all a6k&&decide (nWk t<=4)
def allW (P:Pg):Nat:=(P.map nWk).sum
def a2W (P:Pg):Bool:=P.all a8Y&&(decide (1<=P.length)&&decide (P.length<=3))&&decide (allW P<=8)
theorem b3y (a b c:Int):M65 Ar.std a b c=some (btw a b c):=by
 unfold M65 btw;simp only [a5M];by_cases h:a<=b <;> simp [h]
theorem b9J (a:Ac):M62 Ar.std a.1 a.2.1 a.2.2=some (a6k a):=by
 obtain ⟨x,y,z⟩:=a;unfold M62 a6k;simp only [b3y,a2u];by_cases h1:x=1
 ·simp only [h1,decide_true,cond_true,Option.bind_some];by_cases h2:btw 0 y 2=true
  ·simp [h2]
  simp [h2]
 by_cases h2:x=2
 ·subst h2;simp only [decide_true,cond_true,Option.bind_some];by_cases h3:btw 0 y 2=true
  ·simp [h3]
  simp [h3]
 simp [h1,h2,Ar.std]
theorem b9K (a:Ac):M61 Ar.std a.1 a.2.1 a.2.2=some (!a6k a):=by
 unfold M61;rw [b9J];rfl
theorem b9L {t:List Ac} (ht:t.length<=20):M60 Ar.std (eT t)=some (t.any fun a => !a6k a):=by
 have e:b8O Ar.std (eT t)=some ((t.findIdx? fun a => !a6k a).elim (-1) (fun i=>(i:Int))):=by
  unfold b8O;rw [a8W t (fun a => !a6k a) (fun i=>Sum.inr (i:Int)) (Sum.inl ()) (fun i a ha hi=>by
   unfold b0o;rw [a0W];refine cnT (by simp [hi]) (bt (a0R ha) ?_);refine bt (b9K a) ?_;simp only [a0i,a0k];rw [a1Y hi (by omega)];cases a6k a <;> rfl) (by
   unfold b0o;rw [a0W];exact cnF (by simp) rfl)]
  rw [Option.bind_some];exact a8X _ _
 unfold M60;rw [e,Option.bind_some];simp only [a5M];rw [b7v]
theorem b6k {t:List Ac} (ht:t.length<=20):M63 Ar.std (eT t)=some (nWk t:Int):=by
 unfold M63;have:=a4a (step:=b2d Ar.std (eT t)) t (fun l=>(nWk l:Int)) (fun s i=>(s,(i:Int))) id (fun i a ha hi=>by
  unfold b2d;rw [a0W];refine cnT (by simp [hi]) (bt (a0R ha) ?_);refine bt (v:=wk a) rfl ?_;have hb:nWk (t.take i)<=i:=by unfold nWk;exact Nat.le_trans (List.countP_le_length) (by simp;omega)
  simp only [a0i,a0k];rw [a1Y hi (by omega)];unfold nWk at hb ⊢;rw [List.countP_append,List.countP_singleton];cases wk a with
  | true=>simp only [cond_true,Option.bind_some,if_true];rw [a2Y _ (by omega) (by omega)];simp
  | false=>simp) (by
  unfold b2d;rw [a0W];exact cnF (by simp) rfl)
 rw [show ((0:Int),(0:Int))=((nWk []:Int),((0:Nat):Int)) from rfl,this]
 rfl
theorem a9O {t:List Ac} (ht:t.length<=20):b6S Ar.std (eT t)=some (nLd t:Int):=by
 unfold b6S;have:=a4a (step:=a8d Ar.std (eT t)) t (fun l=>(nLd l:Int)) (fun s i=>(s,(i:Int))) id (fun i a ha hi=>by
  unfold a8d;rw [a0W];refine cnT (by simp [hi]) (bt (a0R ha) ?_);refine bt (v:=ld a) rfl ?_;have hb:nLd (t.take i)<=i:=by unfold nLd;exact Nat.le_trans (List.countP_le_length) (by simp;omega)
  simp only [a0i,a0k];rw [a1Y hi (by omega)];unfold nLd at hb ⊢;rw [List.countP_append,List.countP_singleton];cases ld a with
  | true=>simp only [cond_true,Option.bind_some,if_true];rw [a2Y _ (by omega) (by omega)];simp
  | false=>simp) (by
  unfold a8d;rw [a0W];exact cnF (by simp) rfl)
 rw [show ((0:Int),(0:Int))=((nLd []:Int),((0:Nat):Int)) from rfl,this]
 rfl
theorem b9M {P:Pg} (hP:a2q P):M23 Ar.std (eP P)=some (a2W P):=by
 unfold M23;have key:=a2F (step:=b1g Ar.std (eP P)) P.length (fun (s:Int) i=>(s,(i:Int))) (fun i s=>s=(allW (P.take i):Int)/\(P.take i).all a8Y=true) (fun i x=>x = .inr ()/\P.all a8Y=false) (fun s => .inl s)
  (fun i s hi hR=>by
   obtain ⟨rfl,hall⟩:=hR;have ha:=zp1 hi;generalize hr:P[i]=r at ha;have hrm:r∈P:=List.mem_of_getElem? ha;have hl:=hP.2 r hrm;have hstep:b1g Ar.std (eP P) ((allW (P.take i):Int),(i:Int))=some (bif a8Y r then .inl ((allW (P.take i)+nWk r:Nat),((i+1:Nat):Int)) else .inr (.inr ())):=by
    unfold b1g;refine cnT (by simp [hi]) (bt (a1G ha) ?_);have hb:allW (P.take i)<=100:=by
     have : ∀ (Q:Pg),(∀ t∈Q,t.length<=20)->allW Q<=20*Q.length:=by
      intro Q
      induction Q with
      | nil=>intro _;simp [allW]
      | cons t Q ih =>
        intro hQ;have h1:=ih (fun t ht=>hQ t (by simp [ht]));have h2:nWk t<=20:=Nat.le_trans (List.countP_le_length) (hQ t (by simp));simp only [allW,List.map_cons,List.sum_cons,List.length_cons] at h1 ⊢;omega
     have h1:=this (P.take i) (fun t ht=>hP.2 t (List.mem_of_mem_take ht));have h2:=hP.1;simp only [List.length_take] at h1;omega
    have hn:nWk r<=20:=Nat.le_trans (List.countP_le_length) hl;have hv:((bif Ar.std.zlt 7 (Ar.std.len (eT r)) then some true else (M60 Ar.std (eT r)).bind fun r27=>bif r27 then some true else (M63 Ar.std (eT r)).bind fun r30=>some (Ar.std.zlt 4 r30):Option Bool))=some (!a8Y r):=by
     rw [a0W,b9L hl,b6k hl];simp only [a3h,Option.bind_some,a8Y];by_cases h1:r.length<=7
     ·rw [cnF (r:=_) (by simp;omega) rfl];rw [b0E];simp only [h1,decide_true,Bool.true_and];cases r.all a6k with
      | false=>rfl
      | true =>
        simp only [Bool.not_true,cond_false,Bool.true_and,zp3];rw [<-decide_not,decide_eq_decide];omega
     rw [cnT (r:=_) (by simp;omega) rfl];simp [h1]
    refine bt hv ?_;cases a8Y r with
    | false=>rfl
    | true =>
      simp only [Bool.not_true,cond_false,cond_true];refine bt (b6k hl) ?_;simp only [a0i,a0k];rw [a2Y _ (by omega) (by omega),a2Y _ (by have:=hP.1;omega) (by have:=hP.1;omega)];simp
   cases hv:a8Y r with
   | true =>
     rw [hv] at hstep;refine .inl ⟨_,⟨?_,?_⟩,hstep⟩
     ·rw [a0n ha];simp [allW,List.map_append]
     rw [a0n ha,List.all_append,hall];simp [hv]
   | false =>
     rw [hv] at hstep;refine .inr ⟨_,⟨rfl,?_⟩,hstep⟩;rw [Bool.eq_false_iff];intro h;rw [List.all_eq_true] at h;rw [h r hrm] at hv;cases hv)
  (fun s hs=>by
   unfold b1g;exact cnF (by simp) rfl) 0 ⟨by simp [allW],by simp⟩
 rcases key with ⟨s,⟨rfl,hall⟩,h⟩ | ⟨i,x,_,⟨rfl,hall⟩,h⟩
 ·rw [List.take_length] at hall h;refine bt (v := .inl (allW P:Int)) h ?_;simp only [Sum.elim_inl,b3y,Option.bind_some,a5M];unfold a2W;rw [hall];have e:btw 1 (Ar.std.len (eP P)) 3=(decide (1<=P.length)&&decide (P.length<=3)):=by
   unfold btw;simp;congr 1
   ·rw [decide_eq_decide];omega
   rw [decide_eq_decide];omega
  rw [e];cases (decide (1<=P.length)&&decide (P.length<=3)) with
  | true =>
    simp only [cond_true,Option.bind_some,Bool.true_and,zp3];rw [decide_eq_decide];omega
  | false=>rfl
 refine bt (v := .inr ()) h ?_;unfold a2W;rw [hall];rfl
theorem b9N (P:Pg) (hP:P.length<9223372036854775808) (hl : ∀ t∈P,t.length<9223372036854775808) : ∃ b,M17 Ar.std (eP P)=some b/\(b=false->a2q P):=by
 unfold M17;have key:=a5g (step:=b2c Ar.std (eP P)) P (fun t=>decide (20<t.length)) (.inr ()) (.inl ()) (fun i a ha hi=>by
  unfold b2c;refine cnT (by simp [hi]) (bt (a1G ha) ?_);rw [a0W];simp only [a3h,a0i,a0k];rw [a1Y hi (by omega)];by_cases h:20<a.length
  ·rw [decide_eq_true h];exact cnT (by simp;omega) rfl
  ·rw [decide_eq_false h];exact cnF (by simp;omega) rfl) (by
  unfold b2c;exact cnF (by simp) rfl)
 cases hb:P.any (fun t=>decide (20<t.length)) with
 | true =>
   rw [hb] at key;exact ⟨true,bt key rfl,fun h=>by cases h⟩
 | false =>
   rw [hb] at key;refine ⟨decide (5<P.length),bt key (by simp;omega),fun h=>⟨by simpa using h,fun t ht => ?_⟩⟩;rw [List.any_eq_false] at hb;have:=hb t ht;simpa using this
abbrev Sta:=Nat->Int
def kd (i:Nat):IntKind:=if i<3 then .u8 else if i<38 then .i8 else .i64
def eS (s:Sta):List D:=(List.range 41).map fun i=>D.int (kd i) (s i)
theorem a3i (s:Sta):(eS s).length=41:=by simp [eS]
theorem a2k (s:Sta) {i:Nat} (h:i<41):(eS s)[i]?=some (.int (kd i) (s i)):=by
 unfold eS;rw [List.getElem?_map,List.getElem?_range h];rfl
theorem a9P (s:Sta) {i:Nat} (h : ¬ i<41):(eS s)[i]?=none:=by
 rw [List.getElem?_eq_none];rw [a3i];omega
theorem b9O (s:Sta) {i:Nat} (h:i<41) (v:Int):(eS s).set i (.int (kd i) v)=eS (fup s i v):=by
 apply List.ext_getElem?;intro j;by_cases hj:j<41
 ·rw [a2k _ hj];by_cases hij:i=j
  ·subst hij;rw [List.getElem?_set_self (by rw [a3i];exact h),a0g]
  rw [List.getElem?_set_ne hij,a2k _ hj,a0c _ _ _ (Ne.symm hij)]
 rw [a9P _ hj,List.getElem?_eq_none];rw [List.length_set,a3i];omega
theorem b6l {s u:Sta} (h:eS s=eS u) (hs : ∀ i,41<=i->s i=0) (hu : ∀ i,41<=i->u i=0):s=u:=by
 funext i;by_cases hi:i<41
 ·have h1:=a2k s hi;rw [h,a2k u hi] at h1;simp at h1;exact h1.symm
 rw [hs i (by omega),hu i (by omega)]
theorem kd8 {i:Nat} (h:i<3):kd i = .u8:=by unfold kd;rw [if_pos h]
theorem kdi {i:Nat} (h:3<=i) (h2:i<38):kd i = .i8:=by unfold kd;rw [if_neg (by omega),if_pos h2]
theorem kdw {i:Nat} (h:38<=i):kd i = .i64:=by unfold kd;rw [if_neg (by omega),if_neg (by omega)]
theorem gcS (s:Sta) {i:Nat} {k:IntKind} (h:i<41) (hk:kd i=k):gc Ar.std (cI k) (eS s) i=some (s i):=by
 unfold gc;show ((eS s)[i]?).bind _=_;rw [a2k s h,hk];simp [cI]
theorem a8Z (s:Sta) {i:Nat} {k:IntKind} (h:i<41) (hk:kd i=k):Ar.std.lget (eS s) i=some (.int k (s i)):=by
 show (eS s)[i]?=_;rw [a2k s h,hk]
theorem a9a (s:Sta) {i:Nat} {k:IntKind} (h:i<41) (hk:kd i=k) (v:Int):Ar.std.lset (eS s) i (.int k v)=eS (fup s i v):=by
 show (eS s).set i _=_;rw [<-hk,b9O s h]
theorem a5j (s:Sta):Ar.std.len (eS s)=41:=by show ((eS s).length:Int)=41;rw [a3i];rfl
theorem b9P (s:Sta):Ar.std.ones (eS s)=true:=by
 show (eS s).all D.isOne=true;unfold eS;rw [List.all_map,List.all_eq_true];intro i _;rfl
theorem c3k (s:Sta):Ar.std.sub (eS s) 0 41=eS s:=by
 show ((eS s).drop (0:Int).toNat).take _=_;rw [List.take_of_length_le]
 ·rfl
 rw [List.length_drop,a3i];simp
theorem c3l (s:Sta) (z:List D) (hz:z.length=41):Ar.std.spl z 0 (eS s)=eS s:=by
 show z.take (0:Int).toNat++eS s++z.drop ((0:Int).toNat+(eS s).length)=eS s;rw [a3i,List.drop_eq_nil_of_le (by simp;omega)];simp
theorem gaS (s:Sta) {p:Int} (hp:p=0):ga Ar.std (eS s) p (Int.ofNat 41)=some (eS s):=by
 subst hp;have e1:Ar.std.sub (eS s) 0 (Ar.std.zadd 0 (Int.ofNat 41))=eS s:=c3k s;unfold ga;rw [e1,b9P,a5j];simp
theorem b5v (s:Sta) (z:List D) (hz:z.length=41) {p:Int} (hp:p=0):Ar.std.spl z p (eS s)=eS s:=by subst hp;exact c3l s z hz
theorem b9Q {z:Int} {n:Nat} (h:z=n):Ar.std.nat z=n:=by subst h;rfl
theorem b7D : ∀ (a:Fin 128) (v:Fin 8),a2Z .and .u8 ((a.val:Int).fdiv (2 ^ (min v.val IntKind.u8.bits))) 1=if a.val.testBit v.val then 1 else 0:=by decide +kernel
theorem b7E : ∀ (a:Fin 128) (v:Fin 7),a2Z .or .u8 (a.val:Int) (IntKind.u8.wrap (1*2 ^ (min v.val IntKind.u8.bits)))=((a.val ||| 2 ^ v.val:Nat):Int):=by decide +kernel
theorem b7F : ∀ (n:Fin 8),IntKind.u8.wrap (IntKind.u8.wrap (1*2 ^ (min n.val IntKind.u8.bits))-1)=((2 ^ n.val-1:Nat):Int):=by decide +kernel
def btI (a:Int) (i:Nat):Bool:=a.toNat.testBit i
theorem c2y {a:Int} {v:Nat} (h0:0<=a) (h1:a<128) (hv:v<8):Ar.std.bits .and .u8 (Ar.std.shr .u8 a (v:Int)) 1=if btI a v then 1 else 0:=by
 obtain ⟨n,rfl⟩:=zp9 h0;have:=b7D ⟨n,by omega⟩ ⟨v,hv⟩;exact this
theorem b9R {a:Int} {v:Nat} (h0:0<=a) (h1:a<128) (hv:v<8):Ar.std.zeq (Ar.std.bits .and .u8 (Ar.std.shr .u8 a (v:Int)) 1) 1=btI a v:=by
 rw [c2y h0 h1 hv];cases btI a v <;> rfl
theorem c2a {a:Int} {v:Nat} (h0:0<=a) (h1:a<128) (hv:v<8):Ar.std.zeq (Ar.std.bits .and .u8 (Ar.std.shr .u8 a (v:Int)) 1) 0 = !btI a v:=by
 rw [c2y h0 h1 hv];cases btI a v <;> rfl
def a6o (a:Int) (i:Nat):Int:=((a.toNat ||| 2 ^ i:Nat):Int)
theorem c2z {a:Int} {v:Nat} (h0:0<=a) (h1:a<128) (hv:v<7):Ar.std.bits .or .u8 a (Ar.std.shl .u8 1 (v:Int))=a6o a v:=by
 obtain ⟨n,rfl⟩:=zp9 h0;have:=b7E ⟨n,by omega⟩ ⟨v,hv⟩;exact this
theorem c3m {n:Nat} (hn:n<8):Ar.std.wrp .u8 (Ar.std.zsub (Ar.std.shl .u8 1 (n:Int)) 1)=((2 ^ n-1:Nat):Int):=b7F ⟨n,hn⟩
theorem a5R (a:Int) (i j:Nat):btI (a6o a i) j=(btI a j||decide (j=i)):=by
 unfold btI a6o;rw [Int.toNat_natCast,Nat.testBit_or,Nat.testBit_two_pow];congr 1;rw [decide_eq_decide];exact eq_comm
theorem b3z {a:Int} {i n:Nat} (h0:0<=a) (h:a<(2 ^ n:Nat)) (hi:i<n):0<=a6o a i/\a6o a i<(2 ^ n:Nat):=by
 unfold a6o;refine ⟨Int.natCast_nonneg _,?_⟩;have h1:a.toNat<2 ^ n:=by omega
 have h2:2 ^ i<2 ^ n:=Nat.pow_lt_pow_right (by omega) hi;have:=Nat.or_lt_two_pow h1 h2;omega
theorem a7D {a:Int} {n:Nat} (h0:0<=a) (h:a<(2 ^ n:Nat)):a=((2 ^ n-1:Nat):Int) ↔ ∀ i,i<n->btI a i=true:=by
 obtain ⟨m,rfl⟩:=zp9 h0;have hm:m<2 ^ n:=by omega
 unfold btI;rw [Int.toNat_natCast];constructor
 ·intro e i hi;have:m=2 ^ n-1:=by omega
  rw [this,Nat.testBit_two_pow_sub_one];simp [hi]
 intro hb;have:m=2 ^ n-1:=by
  apply Nat.eq_of_testBit_eq;intro i;rw [Nat.testBit_two_pow_sub_one];by_cases hi:i<n
  ·rw [hb i hi];simp [hi]
  rw [Nat.testBit_lt_two_pow (Nat.lt_of_lt_of_le hm (Nat.pow_le_pow_right (by omega) (by omega)))];simp [hi]
 omega
theorem b3A {a:Int} {n i:Nat} (h0:0<=a) (h:a<(2 ^ n:Nat)) (hi:n<=i):btI a i=false:=by
 unfold btI;exact Nat.testBit_lt_two_pow (Nat.lt_of_lt_of_le (by omega) (Nat.pow_le_pow_right (by omega) hi))
structure VP (P:Pg):Prop where
 n1:1<=P.length
 n3:P.length<=3
 l7 : ∀ t,(thr P t).length<=7
 w4 : ∀ t,nWk (thr P t)<=4
 w8:allW P<=8
 act : ∀ t i,i<(thr P t).length->a6k (aAt (thr P t) i)=true
theorem a1Z {P:Pg} {t:Nat} (h:P.length<=t):thr P t=[]:=by
 unfold thr;rw [List.getD_eq_getElem?_getD,List.getElem?_eq_none h];rfl
theorem a0w {P:Pg} {t:Nat} (h:t<P.length):P[t]?=some (thr P t):=by
 unfold thr;rw [List.getD_eq_getElem?_getD,zp1 h];rfl
theorem a1k {l:List Ac} {i:Nat} (h:i<l.length):l[i]?=some (aAt l i):=by
 unfold aAt;rw [List.getD_eq_getElem?_getD,zp1 h];rfl
theorem VP.of {P:Pg} (h:a2W P=true):VP P:=by
 unfold a2W at h;simp only [zp4,decide_eq_true_eq,List.all_eq_true] at h;obtain ⟨⟨h1,h2,h3⟩,h4⟩:=h;have hv : ∀ t,t<P.length->(thr P t).length<=7/\(∀ a∈thr P t,a6k a=true)/\nWk (thr P t)<=4:=by
  intro t ht;have:=h1 _ (List.mem_of_getElem? (a0w ht));unfold a8Y at this;simp only [zp4,decide_eq_true_eq,List.all_eq_true] at this;exact ⟨this.1.1,this.1.2,this.2⟩
 refine ⟨h2,h3,fun t => ?_,fun t => ?_,h4,fun t i hi => ?_⟩
 ·rcases Nat.lt_or_ge t P.length with ht | ht
  ·exact (hv t ht).1
  rw [a1Z ht];simp
 ·rcases Nat.lt_or_ge t P.length with ht | ht
  ·exact (hv t ht).2.2
  rw [a1Z ht];simp [nWk]
 rcases Nat.lt_or_ge t P.length with ht | ht
 ·exact (hv t ht).2.1 _ (List.mem_of_getElem? (a1k hi))
 rw [a1Z ht] at hi;simp at hi
theorem VP.to {P:Pg} (h:VP P):a2W P=true:=by
 unfold a2W;simp only [zp4,decide_eq_true_eq,List.all_eq_true];refine ⟨⟨fun t ht => ?_,h.n1,h.n3⟩,h.w8⟩;obtain ⟨i,hi,rfl⟩:=List.mem_iff_getElem.1 ht;have e:P[i]=thr P i:=by have:=a0w hi;rw [zp1 hi] at this;exact Option.some.inj this
 unfold a8Y;simp only [zp4,decide_eq_true_eq,List.all_eq_true];refine ⟨⟨by rw [e];exact h.l7 i,fun a ha => ?_⟩,by rw [e];exact h.w4 i⟩;rw [e] at ha;obtain ⟨j,hj,rfl⟩:=List.mem_iff_getElem.1 ha;have:=h.act i j hj;have e2:=a1k hj;rw [zp1 hj] at e2;rw [Option.some.inj e2];exact this
theorem VP.short {P:Pg} (h:VP P):a2q P:=by
 refine ⟨by have:=h.n3;omega,fun t ht => ?_⟩;obtain ⟨i,hi,rfl⟩:=List.mem_iff_getElem.1 ht;have e:P[i]=thr P i:=by have:=a0w hi;rw [zp1 hi] at this;exact Option.some.inj this
 rw [e];have:=h.l7 i;omega
theorem a2I {a:Ac} (h:a6k a=true):(a.1=1/\0<=a.2.1/\a.2.1<=2/\a.2.2=0)\/(a.1=2/\0<=a.2.1/\a.2.1<=2/\0<=a.2.2/\a.2.2<=3)\/a=(3,0,0):=by
 unfold a6k at h;by_cases h1:a.1=1
 ·rw [decide_eq_true h1,cond_true] at h;simp [btw] at h;exact .inl ⟨h1,h.1.1,h.1.2,h.2⟩
 rw [decide_eq_false h1,cond_false] at h;by_cases h2:a.1=2
 ·rw [decide_eq_true h2,cond_true] at h;simp [btw] at h;exact .inr (.inl ⟨h2,h.1.1,h.1.2,h.2.1,h.2.2⟩)
 rw [decide_eq_false h2,cond_false] at h;exact .inr (.inr (by simpa using h))
def num (P:Pg) (t i:Nat):Nat:=((P.take t).map nLd).sum+nLd ((thr P t).take i)
def a3j (s:Sta) (t:Nat):List (Int×Int):=(List.range (s (38+t)).toNat).map fun j=>(s (14+8*t+2*j),s (14+8*t+2*j+1))
def vw (P:Pg) (s:Sta):AS where
 dn t i:=decide (t<3)&&btI (s t) i
 rd t i:=if (aAt (thr P t) i).1=1 then s (3+num P t i) else 0
 bf t:=if t<3 then a3j s t else []
 ce c:=if 0<=c/\c<=2 then s (11+c.toNat) else 0
def stD (l:List Ac) (a:Int):Nat:=((List.range l.length).filter fun i=>decide ((aAt l i).1=2)&&btI a i).length
structure Wf (P:Pg) (s:Sta):Prop where
 d : ∀ t,t<3->0<=s t/\s t<(2 ^ (thr P t).length:Nat)
 r : ∀ n,n<8->0<=s (3+n)/\s (3+n)<=3
 c : ∀ n,n<3->0<=s (11+n)/\s (11+n)<=3
 b : ∀ t (j:Nat),t<3->(j:Int)<s (38+t)->0<=s (14+8*t+2*j)/\s (14+8*t+2*j)<=2/\0<=s (14+8*t+2*j+1)/\s (14+8*t+2*j+1)<=3
 w : ∀ t,t<3->0<=s (38+t)/\s (38+t)<=(stD (thr P t) (s t):Int)
 z : ∀ i,41<=i->s i=0
def s0:Sta:=fun _=>0
theorem Wf.init (P:Pg):Wf P s0:=by
 refine ⟨fun t _=>⟨Int.le_refl _,?_⟩,fun _ _=>⟨Int.le_refl _,by simp [s0]⟩,fun _ _=>⟨Int.le_refl _,by simp [s0]⟩,fun t j _ h => ?_,fun t _=>⟨Int.le_refl _,Int.natCast_nonneg _⟩,fun _ _=>rfl⟩
 ·show (0:Int)<_;have:=Nat.two_pow_pos (thr P t).length;omega
 have:(j:Int)<0:=h;omega
theorem Wf.d7 {P:Pg} (hv:VP P) {s:Sta} (h:Wf P s) {t:Nat} (ht:t<3):0<=s t/\s t<128:=by
 obtain ⟨h1,h2⟩:=h.d t ht;refine ⟨h1,?_⟩;have:2 ^ (thr P t).length<=2 ^ 7:=Nat.pow_le_pow_right (by omega) (hv.l7 t);omega
theorem b6m (l:List Ac) (a:Int):stD l a<=nWk l:=by
 unfold stD nWk;have:(l.countP wk)=((List.range l.length).filter fun i=>wk (aAt l i)).length:=by
  have e:l=(List.range l.length).map (aAt l):=by
   apply List.ext_getElem?;intro i;by_cases hi:i<l.length
   ·rw [List.getElem?_map,List.getElem?_range hi,a1k hi];rfl
   rw [List.getElem?_eq_none (by omega),List.getElem?_eq_none (by simp;omega)]
  conv=>lhs;rw [e]
  rw [List.countP_map,List.countP_eq_length_filter];rfl
 rw [this,<-List.countP_eq_length_filter,<-List.countP_eq_length_filter];refine List.countP_mono_left fun i _ h => ?_;simp only [zp4,decide_eq_true_eq] at h;unfold wk;simp [h.1]
theorem Wf.w4 {P:Pg} (hv:VP P) {s:Sta} (h:Wf P s) {t:Nat} (ht:t<3):0<=s (38+t)/\s (38+t)<=4:=by
 obtain ⟨h1,h2⟩:=h.w t ht;have:=b6m (thr P t) (s t);have:=hv.w4 t;omega
theorem b3B (P:Pg):vw P s0=AS.init:=by
 unfold vw AS.init s0 a3j btI;congr 1
 ·funext t i;simp
 ·funext t i;simp
 ·funext t;simp
 funext c;simp
def a4R (a:Int):Nat->Nat->Nat
 | 0,i=>i
 | n+1,i=>bif btI a i then a4R a n (i+1) else i
def nx (s:Sta) (t:Nat):Nat:=a4R (s t) 8 0
theorem a5S {a:Int} {n:Nat} (h0:0<=a) (h:a<(2 ^ n:Nat)) : ∀ (k i:Nat),i+k=n+1->(∀ j,j<i->btI a j=true)->i<=n ->
  (∀ j,j<a4R a k i->btI a j=true)/\btI a (a4R a k i)=false/\a4R a k i<=n
 | 0,i,hk,hb,hi=>by omega
 | k+1,i,hk,hb,hi=>by
   unfold a4R;cases hbi:btI a i with
   | false=>rw [cond_false];exact ⟨hb,hbi,hi⟩
   | true =>
     rw [cond_true];have hin:i<n:=by
      rcases Nat.lt_or_ge i n with h' | h'
      ·exact h'
      rw [b3A h0 h h'] at hbi;cases hbi
     refine a5S h0 h k (i+1) (by omega) (fun j hj => ?_) (by omega);rcases Nat.lt_or_eq_of_le (Nat.le_of_lt_succ hj) with h' | h'
     ·exact hb j h'
     rw [h'];exact hbi
theorem b3C {S:Type} {step:Int->Option (Int⊕S)} {a:Int} {f:Int->S} (h : ∀ i:Nat,i<8->step (i:Int)=some (bif btI a i then .inl ((i+1:Nat):Int) else .inr (f i))) :
  ∀ (k i:Nat),i+k=8->btI a 7=false->i<=7->iter step (i:Int)=some (f (a4R a k i))
 | 0,i,hk,hb,hi=>by omega
 | k+1,i,hk,hb,hi=>by
   unfold a4R;have:=h i (by omega);cases hbi:btI a i with
   | false=>rw [hbi] at this;rw [cond_false];exact a0E this
   | true =>
     rw [hbi] at this;rw [a1d this,cond_true];have:i≠7:=by rintro rfl;rw [hb] at hbi;cases hbi
     exact b3C h k (i+1) (by omega) hb (by omega)
section
variable {P:Pg} (hv:VP P) {s:Sta} (hs:Wf P s)
include hv hs
theorem a9Q {t:Nat} (ht:t<3):(∀ j,j<nx s t->btI (s t) j=true)/\btI (s t) (nx s t)=false/\nx s t<=7:=by
 obtain ⟨h1,h2⟩:=hs.d7 hv ht;exact a5S (n:=7) h1 (by omega) 8 0 rfl (fun j hj=>by omega) (by omega)
theorem b6n {t:Nat} (ht:t<3):M75 Ar.std (eS s) (t:Int)=some (nx s t:Int):=by
 obtain ⟨h1,h2⟩:=hs.d7 hv ht;unfold M75;refine bck (by rw [a5j];rfl) ?_;have:=b3C (step:=b4I Ar.std (eS s) (t:Int)) (a:=s t) (f:=fun z=>z) (fun i hi=>by
  unfold b4I;refine bck (by simp) (bck (by simp;omega) ?_);have e:Ar.std.nat (Ar.std.zadd 0 (Ar.std.zmul (t:Int) (Int.ofNat 1)))=t:=b9Q (by simp);rw [e];refine bt (gcS s (by omega) (kd8 ht)) (bnk (by simp) ?_);rw [b9R h1 h2 hi];simp only [a0i,a0k];rw [a2Y _ (by omega) (by omega)];cases btI (s t) i <;> rfl) 8 0 rfl (b3A (n:=7) h1 (by omega) (Nat.le_refl _)) (by omega)
 exact bt this rfl
def a3L (P:Pg) (s:Sta):Bool:=(List.range P.length).all fun t=>decide (s t=((2 ^ (thr P t).length-1:Nat):Int)) && !decide (0<s (38+t))
theorem b9S:M77 Ar.std (eS s) (eP P)=some (a3L P s):=by
 unfold M77;refine bck (by rw [a5j];rfl) ?_;have key:=a7B (step:=b2f Ar.std (eS s) (eP P)) P.length (fun t => !(decide (s t=((2 ^ (thr P t).length-1:Nat):Int)) && !decide (0<s (38+t)))) (.inr ()) (.inl ()) (fun t ht=>by
  have ht3:t<3:=by have:=hv.n3;omega
  have hl:=hv.l7 t;unfold b2f;refine cnT (by simp [ht]) ?_;have e1:Ar.std.nat (Ar.std.zadd 0 (Ar.std.zmul (t:Int) (Int.ofNat 1)))=t:=b9Q (by simp);have e2:Ar.std.nat (Ar.std.zadd (Ar.std.zadd 0 (Ar.std.zmul (t:Int) (Int.ofNat 1))) (Int.ofNat 38))=38+t:=b9Q (by simp;omega);rw [e1,e2];refine bt (v := !(decide (s t=((2 ^ (thr P t).length-1:Nat):Int)) && !decide (0<s (38+t)))) ?_ ?_
  ·refine bck (by simp) (bck (by simp;omega) (bt (gcS s (by omega) (kd8 ht3)) (bt (a1G (a0w ht)) (bnk (by rw [a0W];simp) ?_))));rw [a0W,c3m (by omega)];simp only [a2u];by_cases h:s t=((2 ^ (thr P t).length-1:Nat):Int)
   ·refine cnT (by rw [decide_eq_true h]) (bck (by simp) (bck (by simp;omega) (bt (gcS s (by omega) (kdw (by omega))) ?_)));rw [decide_eq_true h];simp
   refine cnF (by rw [decide_eq_false h]) ?_;rw [decide_eq_false h];rfl
  ·simp only [a0i,a0k];rw [a2Y _ (by omega) (by omega)];cases (!(decide (s t=((2 ^ (thr P t).length-1:Nat):Int)) && !decide (0<s (38+t)))) <;> rfl) (by
  unfold b2f;exact cnF (by simp) rfl)
 refine bt key ?_;unfold a3L;rw [b0E];cases (List.range P.length).all fun t=>decide (s t=((2 ^ (thr P t).length-1:Nat):Int)) && !decide (0<s (38+t)) <;> rfl
theorem a9b:a3L P s=true↔b0G P (vw P s):=by
 unfold a3L b0G;rw [List.all_eq_true];constructor
 ·intro h t ht;have ht3:t<3:=by have:=hv.n3;omega
  have:=h t (List.mem_range.2 ht);simp only [zp4,decide_eq_true_eq,Bool.not_eq_true',decide_eq_false_iff_not] at this;obtain ⟨h1,h2⟩:=hs.d t ht3;refine ⟨fun i hi => ?_,?_⟩
  ·show (decide (t<3)&&btI (s t) i)=true;rw [decide_eq_true ht3,Bool.true_and];exact (a7D h1 h2).1 this.1 i hi
  show (if t<3 then a3j s t else [])=[]
  rw [if_pos ht3];unfold a3j;have:(s (38+t)).toNat=0:=by omega
  rw [this];rfl
 intro h t ht;have ht:=List.mem_range.1 ht;have ht3:t<3:=by have:=hv.n3;omega
 obtain ⟨h1,h2⟩:=hs.d t ht3;obtain ⟨ha,hb⟩:=h t ht;simp only [zp4,decide_eq_true_eq,Bool.not_eq_true',decide_eq_false_iff_not];refine ⟨(a7D h1 h2).2 fun i hi => ?_,?_⟩
 ·have:=ha i hi;change (decide (t<3)&&btI (s t) i)=true at this;rw [decide_eq_true ht3,Bool.true_and] at this;exact this
 change (if t<3 then a3j s t else [])=[] at hb
 rw [if_pos ht3] at hb;unfold a3j at hb;rw [List.map_eq_nil_iff,List.range_eq_nil] at hb;omega
end
theorem a2R (l:List Ac) (i:Nat):nLd (l.take i)<=nLd l:=by
 unfold nLd;exact (List.take_sublist i l).countP_le
theorem a3t (l:List Ac):nLd l<=nWk l:=by
 unfold nLd nWk;refine List.countP_mono_left fun a _ h => ?_;unfold ld wk at *;simp at h ⊢;omega
theorem a1O {l:List Ac} {i:Nat} (h:i<l.length):nLd (l.take (i+1))=nLd (l.take i)+if (aAt l i).1=1 then 1 else 0:=by
 rw [a0n (a1k h)];unfold nLd;rw [List.countP_append,List.countP_singleton];unfold ld;by_cases h:(aAt l i).1=1 <;> simp [h]
def sumLd (P:Pg):Nat:=(P.map nLd).sum
theorem a3u {P:Pg} {t:Nat} (h:t<P.length):sumLd (P.take (t+1))=sumLd (P.take t)+nLd (thr P t):=by
 rw [a0n (a0w h)];unfold sumLd;simp
theorem a3v (P:Pg) {t u:Nat} (h:t<=u):sumLd (P.take t)<=sumLd (P.take u):=by
 induction u with
 | zero=>obtain rfl:t=0:=by omega
         exact Nat.le_refl _
 | succ u ih =>
   rcases Nat.lt_or_eq_of_le h with h' | h'
   ·refine Nat.le_trans (ih (by omega)) ?_;by_cases hu:u<P.length
    ·rw [a3u hu];omega
    rw [List.take_of_length_le (by omega),List.take_of_length_le (by omega)];exact Nat.le_refl _
   subst h';exact Nat.le_refl _
theorem a2b (P:Pg):sumLd P<=allW P:=by
 unfold sumLd allW
 induction P with
 | nil=>exact Nat.le_refl _
 | cons t P ih=>simp only [List.map_cons,List.sum_cons];have:=a3t t;omega
theorem a6R {P:Pg} {t i:Nat} (ht:t<P.length) (hi:i<(thr P t).length) (hl:(aAt (thr P t) i).1=1):num P t i<sumLd P:=by
 have h1:=a1O hi;rw [if_pos hl] at h1;have h2:=a2R (thr P t) (i+1);have h3:=a3u ht;have h4:=a3v P (show t+1<=P.length by omega);rw [List.take_length] at h4;unfold num;unfold sumLd at *;omega
theorem b7G {P:Pg} {t i u j:Nat} (ht:t<P.length) (hi:i<(thr P t).length) (hl:(aAt (thr P t) i).1=1) (hu:u<P.length) (hj:j<(thr P u).length) (hl':(aAt (thr P u) j).1=1) (h:num P t i=num P u j):t=u/\i=j:=by
 have hlt : ∀ {t u i j},t<u->u<P.length->i<(thr P t).length->(aAt (thr P t) i).1=1->num P t i<num P u j:=by
  intro t u i j htu hu hi hl;have h1:=a1O hi;rw [if_pos hl] at h1;have h2:=a2R (thr P t) (i+1);have h3:=a3u (P:=P) (t:=t) (by omega);have h4:=a3v P (show t+1<=u by omega);unfold num;unfold sumLd at *;omega
 have hli : ∀ {t i j},i<j->j<(thr P t).length->(aAt (thr P t) i).1=1->num P t i<num P t j:=by
  intro t i j hij hj hl;have h1:=a1O (l:=thr P t) (i:=i) (by omega);rw [if_pos hl] at h1;have h2:nLd ((thr P t).take (i+1))<=nLd ((thr P t).take j):=by
   have e:(thr P t).take (i+1)=((thr P t).take j).take (i+1):=by rw [List.take_take];congr 1;omega
   rw [e];exact a2R _ _
  unfold num;omega
 rcases Nat.lt_trichotomy t u with h' | h' | h'
 ·have:=hlt (j:=j) h' hu hi hl;omega
 ·subst h';refine ⟨rfl,?_⟩;rcases Nat.lt_trichotomy i j with h'' | h'' | h''
  ·have:=hli h'' hj hl;omega
  ·exact h''
  have:=hli h'' hi hl';omega
 have:=hlt (j:=i) h' ht hj hl';omega
theorem b3D {P:Pg} (hv:VP P) {t i:Nat} (ht:t<P.length) (hi:i<(thr P t).length):b8D Ar.std (eP P) (t:Int) (i:Int)=some (num P t i:Int):=by
 unfold b8D;refine bt (a1G (a0w ht)) (bt (a7z (by omega)) ?_);have hl:=hv.l7 t;refine bt (a9O (by simp;omega)) ?_;have e:sl Ar.std (eP P) 0 (t:Int)=some (eP (P.take t)):=by
  unfold eP;rw [a7z (by simp;omega),List.map_take]
 refine bt e ?_;have hn3:=hv.n3;have hsm : ∀ u,sumLd (P.take u)<=8:=fun u=>by
  have h1:sumLd (P.take u)<=sumLd P:=by
   rcases Nat.lt_or_ge u P.length with h | h
   ·have:=a3v P (show u<=P.length by omega);rwa [List.take_length] at this
   rw [List.take_of_length_le h];exact Nat.le_refl _
  have h2:=a2b P;have h3:=hv.w8;omega
 have hb:nLd ((thr P t).take i)<=4:=by
  have h1:=a2R (thr P t) i;have h2:=a3t (thr P t);have h3:=hv.w4 t;omega
 have key:=a4a (step:=a8e Ar.std (eP (P.take t))) (P.take t) (fun l=>((nLd ((thr P t).take i)+sumLd l:Nat):Int)) (fun z j=>(z,(j:Int))) id (fun j a ha hj=>by
  have hj':j<t:=by simp at hj;omega
  unfold a8e;refine cnT (by rw [List.length_take] at hj;simp;omega) (bt (a1G ha) ?_);have ha':a=thr P j:=by
   rw [List.getElem?_take_of_lt hj',a0w (by omega)] at ha;exact (Option.some.inj ha).symm
  subst ha';have hl2:=hv.l7 j;refine bt (a9O (by omega)) ?_;simp only [a0i,a0k];have h3:=a3t (thr P j);have h4:=hv.w4 j;have h5:sumLd ((P.take t).take j)<=8:=by
   rw [List.take_take];have:min j t=j:=by omega
   rw [this];exact hsm j
  rw [a2Y _ (by omega) (by omega),a2Y _ (by omega) (by omega)];unfold sumLd;simp;omega) (by
  unfold a8e;exact cnF (by simp) rfl)
 rw [show ((nLd ((thr P t).take i):Int),(0:Int))=(((nLd ((thr P t).take i)+sumLd []:Nat):Int),((0:Nat):Int)) from by simp [sumLd]];refine bt key ?_;simp only [id];unfold num sumLd;congr 2;omega
abbrev Z41:List D:=zz0
theorem b9T:Z41=eS s0:=rfl
theorem a7E:Z41.length=41:=rfl
theorem a9R (u:Sta):((ga Ar.std (eS u) (Ar.std.zadd 0 (Int.ofNat 0)) (Int.ofNat 41)).bind fun l =>
 (ck (Ar.std.zeq (Ar.std.len l) (Int.ofNat 41))).bind fun _ =>
 (ck (Ar.std.zle (Ar.std.zadd (Ar.std.zadd 0 (Int.ofNat 0)) (Int.ofNat 41)) (Ar.std.len Z41))).bind fun _ =>
 (ck (Ar.std.zeq (Ar.std.len (Ar.std.spl Z41 (Ar.std.zadd 0 (Int.ofNat 0)) l)) (Int.ofNat 41))).bind fun _ =>
 (ck (Ar.std.ones (Ar.std.spl Z41 (Ar.std.zadd 0 (Int.ofNat 0)) l))).bind fun _ =>
 some (Ar.std.spl Z41 (Ar.std.zadd 0 (Int.ofNat 0)) l))=some (eS u):=by
 refine bt (gaS u rfl) ?_;have e:Ar.std.spl Z41 (Ar.std.zadd 0 (Int.ofNat 0)) (eS u)=eS u:=b5v u _ a7E rfl;rw [e,a5j,b9P];exact bck rfl (bck rfl (bck rfl (bck rfl rfl)))
theorem c1h (t:Nat):Ar.std.nat (Ar.std.zadd 0 (Ar.std.zmul (t:Int) (Int.ofNat 1)))=t:=b9Q (by simp)
theorem b1O (t p:Nat):Ar.std.nat (Ar.std.zadd (Ar.std.zadd 0 (Ar.std.zmul (t:Int) (Int.ofNat 1))) (Int.ofNat p))=p+t:=b9Q (by simp;omega)
theorem b3E {z:Int} (h:0<=z) (p:Nat):Ar.std.nat (Ar.std.zadd (Ar.std.zadd 0 (Ar.std.zmul z (Int.ofNat 1))) (Int.ofNat p))=p+z.toNat:=by
 obtain ⟨n,rfl⟩:=zp9 h;exact b1O n p
theorem c3n : ∀ n:Fin 4,IntKind.i8.wrap (n.val:Int)=n.val:=by decide +kernel
theorem i8w {z:Int} (h0:0<=z) (h1:z<=3):Ar.std.wrp .i8 z=z:=by
 obtain ⟨n,rfl⟩:=zp9 h0;exact c3n ⟨n,by omega⟩
theorem lt3 {P:Pg} (hv:VP P) {t:Nat} (ht:t<P.length):t<3:=by have:=hv.n3;omega
def dS (s:Sta) (t i:Nat):Sta:=fup s t (a6o (s t) i)
def doS (P:Pg) (s:Sta) (t i:Nat):Sta :=
 if (aAt (thr P t) i).1=1 then fup (dS s t i) (3+num P t i) (s (11+(aAt (thr P t) i).2.1.toNat))
 else if (aAt (thr P t) i).1=2 then fup (dS s t i) (11+(aAt (thr P t) i).2.1.toNat) (aAt (thr P t) i).2.2 else dS s t i
section
variable {P:Pg} (hv:VP P) {s:Sta} (hs:Wf P s) {t i:Nat} (ht:t<P.length) (hi:i<(thr P t).length)
include hv hs ht hi
theorem b4G (hl:(aAt (thr P t) i).1=1):num P t i<8:=by
 have h1:=a6R ht hi hl;have h2:=a2b P;have h3:=hv.w8;omega
theorem b1P:(aAt (thr P t) i).1=1\/(aAt (thr P t) i).1=2->0<=(aAt (thr P t) i).2.1/\(aAt (thr P t) i).2.1<=2/\((aAt (thr P t) i).1=2->0<=(aAt (thr P t) i).2.2/\(aAt (thr P t) i).2.2<=3):=by
 intro h;rcases a2I (hv.act t i hi) with h1 | h1 | h1
 ·exact ⟨h1.2.1,h1.2.2.1,fun h2=>by omega⟩
 ·exact ⟨h1.2.1,h1.2.2.1,fun _=>⟨h1.2.2.2.1,h1.2.2.2.2⟩⟩
 rw [h1] at h;simp at h
theorem b0H:M76 Ar.std (eS s) (eP P) (t:Int) (i:Int)=some (eS (doS P s t i)):=by
 have ht3:=lt3 hv ht;have hi7:i<7:=by have:=hv.l7 t;omega
 obtain ⟨d0,d1⟩:=hs.d7 hv ht3;have hvar:=b1P hv hs ht hi;have hn8:=b4G hv hs ht hi;have hget:=a1k hi;unfold M76 doS;generalize aAt (thr P t) i=a at *;obtain ⟨x,y,z⟩:=a;simp only at hvar hn8;rw [c1h];refine bck (by rw [a5j];rfl) (bck (by simp) (bck (by simp;omega) (bt (gcS s (by omega) (kd8 ht3)) (bnk (by simp) (bck (by simp) (bck (by simp;omega) (bt (a8Z s (by omega) (kd8 ht3)) (bt (a1G (a0w ht)) (bt (a0R hget) ?_)))))))));rw [c2z d0 d1 hi7,a9a s (by omega) (kd8 ht3)];refine bt (v:=eS _) ?_ (a9R _);by_cases h1:x=1
 ·obtain ⟨c0,c1,_⟩:=hvar (.inl h1);have hn:=hn8 h1;rw [if_pos h1];refine cnT (by simp [h1]) (bt (b3D hv ht hi) (bck (by simp;exact c0) (bck (by simp;omega) ?_)));rw [b3E c0];refine bt (gcS _ (by omega) (kdi (by omega) (by omega))) (bck (by simp) (bck (by simp;omega) ?_));rw [b1O];refine bt (a8Z _ (by omega) (kdi (by omega) (by omega))) ?_;rw [a9a _ (by omega) (kdi (by omega) (by omega))];rw [a0c _ _ _ (by omega)];rfl
 rw [if_neg h1];refine cnF (by simp [h1]) (bt (v:=_) ?_ rfl);by_cases h2:x=2
 ·obtain ⟨c0,c1,c2⟩:=hvar (.inr h2);obtain ⟨c3,c4⟩:=c2 h2;rw [if_pos h2];refine cnT (by simp [h2]) (bck (by simp;exact c0) (bck (by simp;omega) ?_));rw [b3E c0];refine bt (a8Z _ (by omega) (kdi (by omega) (by omega))) ?_;rw [i8w c3 c4,a9a _ (by omega) (kdi (by omega) (by omega))];rfl
 rw [if_neg h2];exact cnF (by simp [h2]) rfl
theorem c2b (u j:Nat):(decide (u<3)&&btI (dS s t i u) j)=fup (fun u j=>decide (u<3)&&btI (s u) j) t (fup (fun j=>decide (t<3)&&btI (s t) j) i true) u j:=by
 have ht3:=lt3 hv ht;unfold dS;by_cases hu:u=t
 ·subst hu;rw [a0g,a0g,a5R];unfold fup;by_cases hj:j=i
  ·simp [hj,ht3]
  simp [hj]
 rw [a0c _ _ _ hu,a0c _ _ _ hu]
theorem b9U {f:Sta} {v:Int} (hf : ∀ n,n<8->f (3+n)=s (3+n)) (hl:(aAt (thr P t) i).1=1) (u j:Nat) :
  (if (aAt (thr P u) j).1=1 then fup f (3+num P t i) v (3+num P u j) else 0)=fup (vw P s).rd t (fup ((vw P s).rd t) i v) u j:=by
 by_cases hl2:(aAt (thr P u) j).1=1
 ·rw [if_pos hl2];have hu:u<P.length:=by
   rcases Nat.lt_or_ge u P.length with h | h
   ·exact h
   rw [a1Z h] at hl2;simp [aAt] at hl2
  have hj:j<(thr P u).length:=by
   rcases Nat.lt_or_ge j (thr P u).length with h | h
   ·exact h
   unfold aAt at hl2;rw [List.getD_eq_getElem?_getD,List.getElem?_eq_none h] at hl2;simp at hl2
  by_cases hn:num P u j=num P t i
  ·obtain ⟨rfl,rfl⟩:=b7G hu hj hl2 ht hi hl hn;rw [a0g,a0g,a0g]
  rw [a0c _ _ _ (by omega)];have h8:=a6R hu hj hl2;have h2:=a2b P;have h3:=hv.w8;rw [hf _ (by omega)];by_cases hut:u=t
  ·subst hut;rw [a0g,a0c _ _ _ (by rintro rfl;exact hn rfl)];simp only [vw,if_pos hl2]
  rw [a0c _ _ _ hut];simp only [vw,if_pos hl2]
 rw [if_neg hl2];by_cases hut:u=t
 ·subst hut;rw [a0g,a0c _ _ _ (by rintro rfl;exact hl2 hl)];simp only [vw,if_neg hl2]
 rw [a0c _ _ _ hut];simp only [vw,if_neg hl2]
theorem b7H {f:Sta} {u:Nat} (h1:f (38+u)=s (38+u)) (h2 : ∀ j,14<=j->j<38->f j=s j) (hu:u<3):a3j f u=a3j s u:=by
 unfold a3j;rw [h1];apply List.map_congr_left;intro j hj;have hw:=hs.w4 hv hu;have hj:=List.mem_range.1 hj;rw [h2 _ (by omega) (by omega),h2 _ (by omega) (by omega)]
omit hv hs ht hi in
theorem AS.mkE {a b:AS} (h1:a.dn=b.dn) (h2:a.rd=b.rd) (h3:a.bf=b.bf) (h4:a.ce=b.ce):a=b:=by
 cases a;cases b;simp only at h1 h2 h3 h4;subst h1 h2 h3 h4;rfl
theorem a7F {f:Sta} (hf : ∀ j,14<=j->f j=s j) (u:Nat):(vw P f).bf u=(vw P s).bf u:=by
 show (if u<3 then a3j f u else [])=(if u<3 then a3j s u else [])
 by_cases hu:u<3
 ·rw [if_pos hu,if_pos hu];exact b7H hv hs ht hi (hf _ (by omega)) (fun j h1 _=>hf j h1) hu
 rw [if_neg hu,if_neg hu]
theorem a9S {f:Sta} (hf : ∀ n,n<8->f (3+n)=s (3+n)) (u j:Nat):(vw P f).rd u j=(vw P s).rd u j:=by
 show (if (aAt (thr P u) j).1=1 then f (3+num P u j) else 0)=(if (aAt (thr P u) j).1=1 then s (3+num P u j) else 0)
 split
 ·rename_i hl;have hu:u<P.length:=by
   rcases Nat.lt_or_ge u P.length with h | h
   ·exact h
   rw [a1Z h] at hl;simp [aAt] at hl
  have hj:j<(thr P u).length:=by
   rcases Nat.lt_or_ge j (thr P u).length with h | h
   ·exact h
   unfold aAt at hl;rw [List.getD_eq_getElem?_getD,List.getElem?_eq_none h] at hl;simp at hl
  have h8:=a6R hu hj hl;have h4:=a2b P;have h3:=hv.w8;exact hf _ (by omega)
 rfl
theorem a7G {f:Sta} (hf : ∀ n,n<3->f (11+n)=s (11+n)) (c:Int):(vw P f).ce c=(vw P s).ce c:=by
 show (if 0<=c/\c<=2 then f (11+c.toNat) else 0)=(if 0<=c/\c<=2 then s (11+c.toNat) else 0)
 by_cases hc:0<=c/\c<=2
 ·rw [if_pos hc,if_pos hc,hf _ (by omega)]
 rw [if_neg hc,if_neg hc]
theorem b3F {f:Sta} (hf : ∀ u,u<3->f u=dS s t i u):(vw P f).dn=fup (vw P s).dn t (fup ((vw P s).dn t) i true):=by
 funext u j;rw [show fup (vw P s).dn t (fup ((vw P s).dn t) i true) u j=(decide (u<3)&&btI (dS s t i u) j) from (c2b hv hs ht hi u j).symm];show (decide (u<3)&&btI (f u) j)=_;by_cases hu3:u<3
 ·rw [hf u hu3]
 simp [hu3]
theorem b9V {k:Nat} (hk:k≠2\/(aAt (thr P t) i).1≠2) (hb:(vw P s).bf t=[]\/(aAt (thr P t) i).1≠1):vw P (doS P s t i)=doA k P (vw P s) t i:=by
 have ht3:=lt3 hv ht;by_cases h1:(aAt (thr P t) i).1=1
 ·obtain ⟨c0,c1,_⟩:=b1P hv hs ht hi (.inl h1);have hn:=b4G hv hs ht hi h1;have e:doS P s t i=fup (dS s t i) (3+num P t i) (s (11+(aAt (thr P t) i).2.1.toNat)):=by unfold doS;rw [if_pos h1]
  rw [e];refine AS.mkE ?_ ?_ ?_ ?_
  ·exact b3F hv hs ht hi (fun u hu=>by rw [a0c _ _ _ (by omega)])
  ·have hsn:sn (vw P s) t (aAt (thr P t) i).2.1=s (11+(aAt (thr P t) i).2.1.toNat):=by
    unfold sn;rcases hb with hb | hb
    ·rw [hb,List.foldl_nil];show (if 0<=(aAt (thr P t) i).2.1/\(aAt (thr P t) i).2.1<=2 then _ else _)=_
     rw [if_pos ⟨c0,c1⟩]
    exact absurd h1 hb
   simp only [doA,if_pos h1];rw [hsn];funext u j;exact b9U hv hs ht hi (f:=dS s t i) (fun n hn=>by unfold dS;rw [a0c _ _ _ (by omega)]) h1 u j
  ·simp only [doA];rw [if_neg (by omega)];funext u;exact a7F hv hs ht hi (fun j hj=>by unfold dS;rw [a0c _ _ _ (by omega),a0c _ _ _ (by omega)]) u
  simp only [doA];rw [if_neg (by omega)];funext c;exact a7G hv hs ht hi (fun n hn=>by unfold dS;rw [a0c _ _ _ (by omega),a0c _ _ _ (by omega)]) c
 by_cases h2:(aAt (thr P t) i).1=2
 ·obtain ⟨c0,c1,_⟩:=b1P hv hs ht hi (.inr h2);have hk2:k≠2:=by rcases hk with h | h;exact h;exact absurd h2 h
  have e:doS P s t i=fup (dS s t i) (11+(aAt (thr P t) i).2.1.toNat) (aAt (thr P t) i).2.2:=by unfold doS;rw [if_neg h1,if_pos h2]
  rw [e];refine AS.mkE ?_ ?_ ?_ ?_
  ·exact b3F hv hs ht hi (fun u hu=>by rw [a0c _ _ _ (by omega)])
  ·simp only [doA,if_neg h1];funext u j;exact a9S hv hs ht hi (fun n hn=>by unfold dS;rw [a0c _ _ _ (by omega),a0c _ _ _ (by omega)]) u j
  ·simp only [doA];rw [if_neg (by omega)];funext u;exact a7F hv hs ht hi (fun j hj=>by unfold dS;rw [a0c _ _ _ (by omega),a0c _ _ _ (by omega)]) u
  simp only [doA];rw [if_pos ⟨h2,hk2⟩];funext c;show (if 0<=c/\c<=2 then fup (dS s t i) (11+(aAt (thr P t) i).2.1.toNat) (aAt (thr P t) i).2.2 (11+c.toNat) else 0)=_
  by_cases hcv:c=(aAt (thr P t) i).2.1
  ·subst hcv;rw [if_pos ⟨c0,c1⟩,a0g,a0g]
  rw [a0c _ _ _ hcv];show _=(if 0<=c/\c<=2 then s (11+c.toNat) else 0)
  by_cases hc:0<=c/\c<=2
  ·rw [if_pos hc,if_pos hc];unfold dS;rw [a0c _ _ _ (by omega),a0c _ _ _ (by omega)]
  rw [if_neg hc,if_neg hc]
 have e:doS P s t i=dS s t i:=by unfold doS;rw [if_neg h1,if_neg h2]
 rw [e];refine AS.mkE ?_ ?_ ?_ ?_
 ·exact b3F hv hs ht hi (fun u hu=>rfl)
 ·simp only [doA,if_neg h1];funext u j;exact a9S hv hs ht hi (fun n hn=>by unfold dS;rw [a0c _ _ _ (by omega)]) u j
 ·simp only [doA];rw [if_neg (by omega)];funext u;exact a7F hv hs ht hi (fun j hj=>by unfold dS;rw [a0c _ _ _ (by omega)]) u
 simp only [doA];rw [if_neg (by omega)];funext c;exact a7G hv hs ht hi (fun n hn=>by unfold dS;rw [a0c _ _ _ (by omega)]) c
theorem a7H (hd:btI (s t) i=false):stD (thr P t) (a6o (s t) i)=stD (thr P t) (s t)+if (aAt (thr P t) i).1=2 then 1 else 0:=by
 unfold stD;have e : ∀ n,((List.range n).filter fun j=>decide ((aAt (thr P t) j).1=2)&&btI (a6o (s t) i) j).length=((List.range n).filter fun j=>decide ((aAt (thr P t) j).1=2)&&btI (s t) j).length+if i<n/\(aAt (thr P t) i).1=2 then 1 else 0:=by
  intro n
  induction n with
  | zero=>simp
  | succ n ih =>
    have ef : ∀ (g:Nat->Bool),(List.filter g [n]).length=if g n=true then 1 else 0:=by intro g;cases h:g n <;> simp [h]
    rw [List.range_succ,List.filter_append,List.filter_append,List.length_append,List.length_append,ih,ef,ef,a5R];by_cases hn:n=i
    ·subst hn;by_cases h2:(aAt (thr P t) n).1=2
     ·simp [h2,hd]
     simp [h2]
    by_cases hlt:i<n
    ·have hlt':i<n+1:=by omega
     by_cases h2:(aAt (thr P t) i).1=2
     ·simp only [h2,hlt,hlt',hn,decide_false,Bool.or_false,and_self,if_true];omega
     simp only [h2,hn,decide_false,Bool.or_false,and_false,if_false];omega
    have hlt' : ¬ i<n+1:=by omega
    simp only [hlt,hlt',hn,decide_false,Bool.or_false,false_and,if_false];omega
 rw [e];by_cases h2:(aAt (thr P t) i).1=2
 ·rw [if_pos ⟨hi,h2⟩,if_pos h2]
 rw [if_neg (by simp [h2]),if_neg h2]
theorem Wf.do (hd:btI (s t) i=false):Wf P (doS P s t i):=by
 have ht3:=lt3 hv ht;obtain ⟨d0,d1⟩:=hs.d t ht3;have hset:=b3z d0 d1 hi;have hst:=a7H hv hs ht hi hd;have hle:stD (thr P t) (s t)<=stD (thr P t) (a6o (s t) i):=by rw [hst];omega

 have hD:Wf P (dS s t i):=by
  refine ⟨fun u hu => ?_,fun n hn => ?_,fun n hn => ?_,fun u j hu hj => ?_,fun u hu => ?_,fun j hj => ?_⟩
  ·unfold dS;by_cases h:u=t
   ·subst h;rw [a0g];exact hset
   rw [a0c _ _ _ h];exact hs.d u hu
  ·unfold dS;rw [a0c _ _ _ (by omega)];exact hs.r n hn
  ·unfold dS;rw [a0c _ _ _ (by omega)];exact hs.c n hn
  ·unfold dS at hj ⊢;rw [a0c _ _ _ (by omega)] at hj;rw [a0c _ _ _ (by omega),a0c _ _ _ (by omega)];exact hs.b u j hu hj
  ·unfold dS;rw [a0c _ _ _ (by omega)];obtain ⟨w0,w1⟩:=hs.w u hu;by_cases h:u=t
   ·subst h;rw [a0g];exact ⟨w0,by omega⟩
   rw [a0c _ _ _ h];exact ⟨w0,w1⟩
  unfold dS;rw [a0c _ _ _ (by omega)];exact hs.z j hj
 have hU : ∀ (f:Sta) (p:Nat) (v:Int),Wf P f->3<=p->p<14->0<=v->v<=3->Wf P (fup f p v):=by
  intro f p v hf hp hp2 v0 v3;refine ⟨fun u hu => ?_,fun n hn => ?_,fun n hn => ?_,fun u j hu hj => ?_,fun u hu => ?_,fun j hj => ?_⟩
  ·rw [a0c _ _ _ (by omega)];exact hf.d u hu
  ·by_cases h:3+n=p
   ·rw [<-h,a0g];exact ⟨v0,v3⟩
   rw [a0c _ _ _ h];exact hf.r n hn
  ·by_cases h:11+n=p
   ·rw [<-h,a0g];exact ⟨v0,v3⟩
   rw [a0c _ _ _ h];exact hf.c n hn
  ·rw [a0c _ _ _ (by omega)] at hj;rw [a0c _ _ _ (by omega),a0c _ _ _ (by omega)];exact hf.b u j hu hj
  ·rw [a0c _ _ _ (by omega),a0c _ _ _ (by omega)];exact hf.w u hu
  rw [a0c _ _ _ (by omega)];exact hf.z j hj
 unfold doS;split
 ·rename_i h1;obtain ⟨c0,c1,_⟩:=b1P hv hs ht hi (.inl h1);have hn:=b4G hv hs ht hi h1;have:=hs.c (aAt (thr P t) i).2.1.toNat (by omega);exact hU _ _ _ hD (by omega) (by omega) this.1 this.2
 split
 ·rename_i h1 h2;obtain ⟨c0,c1,c2⟩:=b1P hv hs ht hi (.inr h2);exact hU _ _ _ hD (by omega) (by omega) (c2 h2).1 (c2 h2).2
 exact hD
end
theorem bc {β:Type} {b:Bool} {f:Unit->Option β} {r:Option β} (h2:f ()=r) (h:b=true:=by first | (simp;done) | (simp;omega)):(ck b).bind f=r:=bck h h2
theorem gd2 (s:Sta) {p:Nat} {z:Int} (hz:z=p) (h0:3<=p) (h1:p+1<38):gd Ar.std (lc (cI .i8) (l1 (cI .i8))) (eS s) z (Int.ofNat 2)=some (s p,s (p+1)):=by
 subst hz;have e:Ar.std.sub (eS s) (p:Int) (Ar.std.zadd (p:Int) (Int.ofNat 2))=[.int .i8 (s p),.int .i8 (s (p+1))]:=by
  show ((eS s).drop ((p:Int)).toNat).take (((p:Int)+2).toNat-((p:Int)).toNat)=_;have e1:((p:Int)+2).toNat-((p:Int)).toNat=2:=by omega
  rw [e1,Int.toNat_natCast];apply List.ext_getElem?;intro i;by_cases hi:i<2
  ·rw [List.getElem?_take_of_lt hi,List.getElem?_drop,a2k s (by omega),kdi (by omega) (by omega)];rcases (show i=0\/i=1 by omega) with rfl | rfl <;> rfl
  rw [List.getElem?_eq_none (by simp;omega),List.getElem?_eq_none (by simp;omega)]
 unfold gd ga;rw [e,a5j];have e2:Ar.std.zle (Ar.std.zadd (p:Int) (Int.ofNat 2)) 41=true:=by simp;omega
 have e3:Ar.std.ones [D.int .i8 (s p),D.int .i8 (s (p+1))]=true:=rfl;rw [e2,e3];simp [lc,l1,cI]
theorem c2A (s:Sta) {p:Nat} {z:Int} (hz:z=p) (x y:Int) (h0:3<=p) (h1:p+1<38):Ar.std.spl (eS s) z [.int .i8 x,.int .i8 y]=eS (fup (fup s p x) (p+1) y):=by
 subst hz;show (eS s).take ((p:Int)).toNat++[D.int .i8 x,D.int .i8 y]++(eS s).drop (((p:Int)).toNat+2)=_;rw [Int.toNat_natCast];apply List.ext_getElem?;intro i;have hl:((eS s).take p).length=p:=by rw [List.length_take,a3i];omega
 by_cases hi:i<41
 ·rw [a2k _ hi];by_cases c1:i<p
  ·rw [List.append_assoc,zp7 (by omega),List.getElem?_take_of_lt c1,a2k s hi,a0c _ _ _ (by omega),a0c _ _ _ (by omega)]
  by_cases c2:i<p+2
  ·rw [List.append_assoc,zp8 (by omega),hl,zp7 (by simp;omega)];rcases (show i=p\/i=p+1 by omega) with rfl | rfl
   ·rw [Nat.sub_self,a0c _ _ _ (by omega),a0g,kdi (by omega) (by omega)];rfl
   rw [show p+1-p=1 by omega,a0g,kdi (by omega) (by omega)];rfl
  rw [zp8 (by simp [hl];omega),List.getElem?_drop];have:p+2+(i-((eS s).take p++[D.int .i8 x,D.int .i8 y]).length)=i:=by simp [hl];omega
  rw [this,a2k s hi,a0c _ _ _ (by omega),a0c _ _ _ (by omega)]
 rw [a9P _ hi,List.getElem?_eq_none];simp [hl,a3i];omega
def shS (s:Sta) (p:Nat):Sta:=fun j=>if p<=j/\j<p+6 then s (j+2) else s j
theorem c3o (s:Sta) {p:Nat} {z a b:Int} (hz:z=p) (ha:a=(p+2:Nat)) (hb:b=(p+8:Nat)) (h0:3<=p) (h1:p+8<=38):Ar.std.spl (eS s) z (Ar.std.sub (eS s) a b)=eS (shS s p):=by
 subst hz ha hb;have e:Ar.std.sub (eS s) ((p+2:Nat):Int) ((p+8:Nat):Int)=((eS s).drop (p+2)).take 6:=by
  show ((eS s).drop _).take _=_;rw [Int.toNat_natCast,Int.toNat_natCast];congr 1;omega
 rw [e];show (eS s).take ((p:Int)).toNat++((eS s).drop (p+2)).take 6++(eS s).drop (((p:Int)).toNat+(((eS s).drop (p+2)).take 6).length)=_;have hl6:(((eS s).drop (p+2)).take 6).length=6:=by rw [List.length_take,List.length_drop,a3i];omega
 have hl:((eS s).take p).length=p:=by rw [List.length_take,a3i];omega
 rw [Int.toNat_natCast,hl6];apply List.ext_getElem?;intro i;by_cases hi:i<41
 ·rw [a2k _ hi];unfold shS;by_cases c1:i<p
  ·rw [List.append_assoc,zp7 (by omega),List.getElem?_take_of_lt c1,a2k s hi,if_neg (by omega)]
  by_cases c2:i<p+6
  ·rw [List.append_assoc,zp8 (by omega),hl,zp7 (by omega),List.getElem?_take_of_lt (by omega),List.getElem?_drop,a2k s (by omega),if_pos (by omega)];rw [show p+2+(i-p)=i+2 by omega,kdi (by omega) (by omega),kdi (by omega) (by omega)]
  rw [zp8 (by rw [List.length_append,hl,hl6];omega),List.getElem?_drop];have:p+6+(i-((eS s).take p++((eS s).drop (p+2)).take 6).length)=i:=by rw [List.length_append,hl,hl6];omega
  rw [this,a2k s hi,if_neg (by omega)]
 rw [a9P _ hi,List.getElem?_eq_none];rw [List.length_append,List.length_append,hl,hl6,List.length_drop,a3i];omega
theorem c2c {t:Nat} (ht:t<3):Ar.std.quo .i64 (Ar.std.zadd (Ar.std.zadd 0 (Ar.std.zmul (t:Int) (Int.ofNat 8))) (Int.ofNat 14)) (Int.ofNat 2)=((7+4*t:Nat):Int):=by
 rcases (show t=0\/t=1\/t=2 by omega) with rfl | rfl | rfl <;> rfl
def a4A (s:Sta) (t:Nat):Sta :=
 fup (fup (fup (shS (fup s (11+(s (14+8*t)).toNat) (s (14+8*t+1))) (14+8*t)) (38+t) (s (38+t)-1)) (14+8*t+2*(s (38+t)-1).toNat) 0) (14+8*t+2*(s (38+t)-1).toNat+1) 0
section
variable {P:Pg} (hv:VP P) {s:Sta} (hs:Wf P s) {t:Nat} (ht:t<P.length)
include hv hs ht
theorem a3k (hw:0<s (38+t)):0<=s (14+8*t)/\s (14+8*t)<=2/\0<=s (14+8*t+1)/\s (14+8*t+1)<=3:=by
 have:=hs.b t 0 (lt3 hv ht) (by simpa using hw);simpa using this
theorem b7I (hw:0<s (38+t)):b8R Ar.std (eS s) (t:Int)=some (eS (a4A s t)):=by
 have ht3:=lt3 hv ht;obtain ⟨c0,c1,v0,v1⟩:=a3k hv hs ht hw;obtain ⟨w0,w1⟩:=hs.w4 hv ht3;have hsh:shS (fup s (11+(s (14+8*t)).toNat) (s (14+8*t+1))) (14+8*t) (38+t)=s (38+t):=by
  unfold shS;rw [if_neg (by omega),a0c _ _ _ (by omega)]
 unfold b8R;rw [c2c ht3];refine bck (by rw [a5j];rfl) (bc (bc (bt (gd2 s (p:=14+8*t) (by simp;omega) (by omega) (by omega)) (bck (by simp;exact c0) (bc ?_)))));rw [b3E c0];refine bt (a8Z s (by omega) (kdi (by omega) (by omega))) ?_;rw [a9a s (by omega) (kdi (by omega) (by omega)),a5j];refine bc (bc (bc (bc (bc (bc (bc (bc (bc (bc (bc (bc (bc (bc (bc (bc (bc (bc (bc (bc (bc ?_))))))))))))))))))));rw [c3o _ (p:=14+8*t) (by simp;omega) (by simp;omega) (by simp;omega) (by omega) (by omega),b1O];refine bt (gcS _ (by omega) (kdw (by omega))) (bc (bc (bt (a8Z _ (by omega) (kdw (by omega))) (bc (bc ?_)))));rw [hsh];have ew:Ar.std.wrp .i64 (Ar.std.zsub (s (38+t)) 1)=s (38+t)-1:=by
  simp only [a0i,a0C];exact a2Y _ (by omega) (by omega)
 rw [ew,a9a _ (by omega) (kdw (by omega))];refine bt (gcS _ (by omega) (kdw (by omega))) ?_;rw [a0g];refine bc (bc (bck (by simp;omega) (bc ?_)));rw [a5j];obtain ⟨w,hwn⟩:=zp9 (show 0<=s (38+t)-1 by omega);have hw4:w<4:=by omega
 refine bck (by rw [hwn];simp;omega) ?_;rw [c2A _ (p:=14+8*t+2*w) (by rw [hwn];simp;omega) 0 0 (by omega) (by omega)];have:w=(s (38+t)-1).toNat:=by omega
 rw [this];exact a9R _
theorem a0s {j:Nat}:a4A s t j=if j=14+8*t+2*(s (38+t)-1).toNat+1 then 0 else if j=14+8*t+2*(s (38+t)-1).toNat then 0 else if j=38+t then s (38+t)-1 else
  if 14+8*t<=j/\j<14+8*t+6 then (if j+2=11+(s (14+8*t)).toNat then s (14+8*t+1) else s (j+2)) else (if j=11+(s (14+8*t)).toNat then s (14+8*t+1) else s j):=by
 unfold a4A shS fup;rfl
theorem b6o (hw:0<s (38+t)):vw P (a4A s t)=outB (vw P s) t:=by
 have ht3:=lt3 hv ht;obtain ⟨c0,c1,v0,v1⟩:=a3k hv hs ht hw;obtain ⟨w0,w1⟩:=hs.w4 hv ht3;have hbt:(vw P s).bf t=(s (14+8*t),s (14+8*t+1))::(List.range (s (38+t)-1).toNat).map fun j=>(s (14+8*t+2*(j+1)),s (14+8*t+2*(j+1)+1)):=by
  show (if t<3 then a3j s t else [])=_
  rw [if_pos ht3];unfold a3j;have e:(s (38+t)).toNat=(s (38+t)-1).toNat+1:=by omega
  rw [e,List.range_succ_eq_map,List.map_cons,List.map_map];rfl
 have e:outB (vw P s) t=AS.mk (vw P s).dn (vw P s).rd (fup (vw P s).bf t ((List.range (s (38+t)-1).toNat).map fun j=>(s (14+8*t+2*(j+1)),s (14+8*t+2*(j+1)+1)))) (fup (vw P s).ce (s (14+8*t)) (s (14+8*t+1))):=by
  unfold outB;rw [hbt]
 rw [e];refine AS.mkE ?_ ?_ ?_ ?_
 ·funext u j;show (decide (u<3)&&btI (a4A s t u) j)=(decide (u<3)&&btI (s u) j);by_cases hu:u<3
  ·rw [a0s hv hs ht,if_neg (by omega),if_neg (by omega),if_neg (by omega),if_neg (by omega),if_neg (by omega)]
  simp [hu]
 ·funext u j;show (if (aAt (thr P u) j).1=1 then a4A s t (3+num P u j) else 0)=(if (aAt (thr P u) j).1=1 then s (3+num P u j) else 0)
  split
  ·rename_i hl;have hu:u<P.length:=by
    rcases Nat.lt_or_ge u P.length with h | h
    ·exact h
    rw [a1Z h] at hl;simp [aAt] at hl
   have hj:j<(thr P u).length:=by
    rcases Nat.lt_or_ge j (thr P u).length with h | h
    ·exact h
    unfold aAt at hl;rw [List.getD_eq_getElem?_getD,List.getElem?_eq_none h] at hl;simp at hl
   have h8:=a6R hu hj hl;have h4:=a2b P;have h3:=hv.w8;rw [a0s hv hs ht,if_neg (by omega),if_neg (by omega),if_neg (by omega),if_neg (by omega),if_neg (by omega)]
  rfl
 ·funext u;show (if u<3 then a3j (a4A s t) u else [])=fup (vw P s).bf t _ u
  by_cases hut:u=t
  ·subst hut;rw [a0g,if_pos ht3];unfold a3j;have e1:a4A s u (38+u)=s (38+u)-1:=by rw [a0s hv hs ht,if_neg (by omega),if_neg (by omega),if_pos rfl]
   rw [e1];apply List.map_congr_left;intro j hj;have hj:=List.mem_range.1 hj;rw [a0s hv hs ht,a0s hv hs ht];rw [if_neg (by omega),if_neg (by omega),if_neg (by omega),if_pos (by omega),if_neg (by omega),if_neg (by omega),if_neg (by omega),if_neg (by omega),if_pos (by omega),if_neg (by omega)];congr 2
  rw [a0c _ _ _ hut];show _=(if u<3 then a3j s u else [])
  by_cases hu:u<3
  ·rw [if_pos hu,if_pos hu];unfold a3j;have hw2:=hs.w4 hv hu;have e1:a4A s t (38+u)=s (38+u):=by rw [a0s hv hs ht,if_neg (by omega),if_neg (by omega),if_neg (by omega),if_neg (by omega),if_neg (by omega)]
   rw [e1];apply List.map_congr_left;intro j hj;have hj:=List.mem_range.1 hj;rw [a0s hv hs ht,a0s hv hs ht];rw [if_neg (by omega),if_neg (by omega),if_neg (by omega),if_neg (by omega),if_neg (by omega),if_neg (by omega),if_neg (by omega),if_neg (by omega),if_neg (by omega),if_neg (by omega)]
  rw [if_neg hu,if_neg hu]
 funext c;show (if 0<=c/\c<=2 then a4A s t (11+c.toNat) else 0)=fup (vw P s).ce _ _ c
 by_cases hc:c=s (14+8*t)
 ·subst hc;rw [a0g,if_pos ⟨c0,c1⟩,a0s hv hs ht,if_neg (by omega),if_neg (by omega),if_neg (by omega),if_neg (by omega),if_pos rfl]
 rw [a0c _ _ _ hc];show _=(if 0<=c/\c<=2 then s (11+c.toNat) else 0)
 by_cases h:0<=c/\c<=2
 ·rw [if_pos h,if_pos h,a0s hv hs ht,if_neg (by omega),if_neg (by omega),if_neg (by omega),if_neg (by omega),if_neg (by omega)]
 rw [if_neg h,if_neg h]
theorem Wf.out (hw:0<s (38+t)):Wf P (a4A s t):=by
 have ht3:=lt3 hv ht;obtain ⟨c0,c1,v0,v1⟩:=a3k hv hs ht hw;obtain ⟨w0,w1⟩:=hs.w4 hv ht3;refine ⟨fun u hu => ?_,fun n hn => ?_,fun n hn => ?_,fun u j hu hj => ?_,fun u hu => ?_,fun j hj => ?_⟩
 ·rw [a0s hv hs ht,if_neg (by omega),if_neg (by omega),if_neg (by omega),if_neg (by omega),if_neg (by omega)];exact hs.d u hu
 ·rw [a0s hv hs ht,if_neg (by omega),if_neg (by omega),if_neg (by omega),if_neg (by omega),if_neg (by omega)];exact hs.r n hn
 ·rw [a0s hv hs ht,if_neg (by omega),if_neg (by omega),if_neg (by omega),if_neg (by omega)];split
  ·exact ⟨v0,v1⟩
  exact hs.c n hn
 ·by_cases hut:u=t
  ·subst hut;have e1:a4A s u (38+u)=s (38+u)-1:=by rw [a0s hv hs ht,if_neg (by omega),if_neg (by omega),if_pos rfl]
   rw [e1] at hj;have:=hs.b u (j+1) hu (by omega);rw [a0s hv hs ht,a0s hv hs ht];rw [if_neg (by omega),if_neg (by omega),if_neg (by omega),if_pos (by omega),if_neg (by omega),if_neg (by omega),if_neg (by omega),if_neg (by omega),if_pos (by omega),if_neg (by omega)];exact this
  have hw2:=hs.w4 hv hu;have e1:a4A s t (38+u)=s (38+u):=by rw [a0s hv hs ht,if_neg (by omega),if_neg (by omega),if_neg (by omega),if_neg (by omega),if_neg (by omega)]
  rw [e1] at hj;have:=hs.b u j hu hj;rw [a0s hv hs ht,a0s hv hs ht];rw [if_neg (by omega),if_neg (by omega),if_neg (by omega),if_neg (by omega),if_neg (by omega),if_neg (by omega),if_neg (by omega),if_neg (by omega),if_neg (by omega),if_neg (by omega)];exact this
 ·have e2:a4A s t u=s u:=by rw [a0s hv hs ht,if_neg (by omega),if_neg (by omega),if_neg (by omega),if_neg (by omega),if_neg (by omega)]
  rw [e2];obtain ⟨q0,q1⟩:=hs.w u hu;by_cases hut:u=t
  ·subst hut;have e1:a4A s u (38+u)=s (38+u)-1:=by rw [a0s hv hs ht,if_neg (by omega),if_neg (by omega),if_pos rfl]
   rw [e1];omega
  have e1:a4A s t (38+u)=s (38+u):=by rw [a0s hv hs ht,if_neg (by omega),if_neg (by omega),if_neg (by omega),if_neg (by omega),if_neg (by omega)]
  rw [e1];exact ⟨q0,q1⟩
 rw [a0s hv hs ht,if_neg (by omega),if_neg (by omega),if_neg (by omega),if_neg (by omega),if_neg (by omega)];exact hs.z j hj
end
def ldS (P:Pg) (s:Sta) (t i:Nat):Sta:=fup (dS s t i) (3+num P t i) (sn (vw P s) t (aAt (thr P t) i).2.1)
def stS (P:Pg) (s:Sta) (t i:Nat):Sta :=
 fup (fup (fup (dS s t i) (14+8*t+2*(s (38+t)).toNat) (aAt (thr P t) i).2.1) (14+8*t+2*(s (38+t)).toNat+1) (aAt (thr P t) i).2.2) (38+t) (s (38+t)+1)
section
variable {P:Pg} (hv:VP P) {s:Sta} (hs:Wf P s) {t i:Nat} (ht:t<P.length) (hi:i<(thr P t).length)
include hv hs ht hi
theorem b9W {c:Int} (c0:0<=c) (c1:c<=2):sn (vw P s) t c=(a3j s t).foldl (fun v e=>if e.1=c then e.2 else v) (s (11+c.toNat)):=by
 unfold sn;show (if t<3 then a3j s t else []).foldl _ (if 0<=c/\c<=2 then s (11+c.toNat) else 0)=_
 rw [if_pos (lt3 hv ht),if_pos ⟨c0,c1⟩]
theorem b3G {j:Nat} {e:Int×Int} (h:(a3j s t)[j]?=some e):j<4/\(j:Int)<s (38+t)/\e=(s (14+8*t+2*j),s (14+8*t+2*j+1)):=by
 have hw:=hs.w4 hv (lt3 hv ht);unfold a3j at h;rw [List.getElem?_map] at h;by_cases hj:j<(s (38+t)).toNat
 ·rw [List.getElem?_range hj] at h;simp at h;exact ⟨by omega,by omega,by rw [<-h]⟩
 rw [List.getElem?_eq_none (by simp;omega)] at h;simp at h
theorem sn3 {c:Int} (c0:0<=c) (c1:c<=2):0<=sn (vw P s) t c/\sn (vw P s) t c<=3:=by
 rw [b9W hv hs ht hi c0 c1];have key : ∀ (l:List (Int×Int)) (v:Int),(∀ e∈l,0<=e.2/\e.2<=3)->0<=v/\v<=3->0<=l.foldl (fun v e=>if e.1=c then e.2 else v) v/\l.foldl (fun v e=>if e.1=c then e.2 else v) v<=3:=by
  intro l
  induction l with
  | nil=>intro v _ h;exact h
  | cons e l ih =>
    intro v hl h;rw [List.foldl_cons];refine ih _ (fun e he=>hl e (by simp [he])) ?_;split
    ·exact hl e (by simp)
    exact h
 refine key _ _ (fun e he => ?_) (hs.c _ (by omega));obtain ⟨j,hj⟩:=List.mem_iff_getElem?.1 he;obtain ⟨_,h2,rfl⟩:=b3G hv hs ht hi hj;have:=hs.b t j (lt3 hv ht) h2;exact ⟨this.2.2.1,this.2.2.2⟩
theorem b7J (h1:(aAt (thr P t) i).1=1):b8S Ar.std (eS s) (eP P) (t:Int) (i:Int)=some (eS (ldS P s t i)):=by
 have ht3:=lt3 hv ht;obtain ⟨c0,c1,_⟩:=b1P hv hs ht hi (.inl h1);have hn:=b4G hv hs ht hi h1;obtain ⟨w0,w1⟩:=hs.w4 hv ht3;have hdo:doS P s t i=fup (dS s t i) (3+num P t i) (s (11+(aAt (thr P t) i).2.1.toNat)):=by unfold doS;rw [if_pos h1]
 unfold b8S;rw [c2c ht3];refine bck (by rw [a5j];rfl) (bt (gaS s rfl) (bt (b0H hv hs ht hi) (bck (by rw [a5j];rfl) (bc (bc (bc (bc (bc ?_))))))));rw [b1O];refine bt (gcS s (by omega) (kdw (by omega))) (bc (bck (by simp;omega) (bck (by simp;omega) (bc (bc (bc ?_))))));have e:Ar.std.spl Z41 (Ar.std.zadd 0 (Int.ofNat 0)) (eS (doS P s t i))=eS (doS P s t i):=b5v _ _ a7E rfl;rw [e,hdo];have hlen:((a3j s t).length:Int)=s (38+t):=by unfold a3j;simp;omega
 have hget:=a1k hi;have hsn:=b9W hv hs ht hi c0 c1;have key:=b3u (step:=a8g Ar.std (eS s) (eP P) (t:Int) (i:Int) (s (38+t))) (a3j s t) (fun (v:Int) j=>((j:Int),eS (fup (dS s t i) (3+num P t i) v))) (fun v e=>if e.1=(aAt (thr P t) i).2.1 then e.2 else v) (fun v=>eS (fup (dS s t i) (3+num P t i) v))
  (fun j e v hj hjl=>by
   obtain ⟨j4,jw,rfl⟩:=b3G hv hs ht hi hj;have hb:=hs.b t j ht3 jw;unfold a8g;generalize aAt (thr P t) i=a at *;obtain ⟨x,y,z⟩:=a;rw [c2c ht3];refine cnT (by simp;omega) (bc (bc (bt (gd2 s (p:=14+8*t+2*j) (by simp;omega) (by omega) (by omega)) (bt (a1G (a0w ht)) (bt (a0R hget) ?_)))));have e2:Ar.std.wrp .i64 (s (14+8*t+2*j))=s (14+8*t+2*j):=by simp only [a0i];exact a2Y _ (by omega) (by omega)
   rw [e2];have e3:Ar.std.wrp .i64 (Ar.std.zadd (j:Int) 1)=((j+1:Nat):Int):=by simp only [a0i,a0k];exact a1Y (n:=5) (by omega) (by omega)
   rw [e3];by_cases hc:s (14+8*t+2*j)=y
   ·rw [if_pos hc];refine bt (v:=eS (fup (dS s t i) (3+num P t i) (s (14+8*t+2*j+1)))) ?_ rfl;refine cnT (by simp [hc]) (bt (b3D hv ht hi) (bc (bc ?_)));rw [b1O];refine bt (a8Z _ (by omega) (kdi (by omega) (by omega))) ?_;rw [a9a _ (by omega) (kdi (by omega) (by omega)),b7x]
   rw [if_neg hc];refine bt (v:=eS (fup (dS s t i) (3+num P t i) v)) ?_ rfl;exact cnF (by simp [hc]) rfl)
  (fun v=>by
   unfold a8g;exact cnF (by simp;omega) rfl) (s (11+(aAt (thr P t) i).2.1.toNat))
 refine bt key ?_;rw [<-hsn];exact a9R _
theorem c2d {k:Nat} (h1:(aAt (thr P t) i).1=1):vw P (ldS P s t i)=doA k P (vw P s) t i:=by
 have hn:=b4G hv hs ht hi h1;have ht3:=lt3 hv ht;refine AS.mkE ?_ ?_ ?_ ?_
 ·exact b3F hv hs ht hi (fun u hu=>by unfold ldS;rw [a0c _ _ _ (by omega)])
 ·simp only [doA,if_pos h1];funext u j;exact b9U hv hs ht hi (f:=dS s t i) (fun n hn=>by unfold dS;rw [a0c _ _ _ (by omega)]) h1 u j
 ·simp only [doA];rw [if_neg (by omega)];funext u;exact a7F hv hs ht hi (fun j hj=>by unfold ldS dS;rw [a0c _ _ _ (by omega),a0c _ _ _ (by omega)]) u
 simp only [doA];rw [if_neg (by omega)];funext c;exact a7G hv hs ht hi (fun n hn=>by unfold ldS dS;rw [a0c _ _ _ (by omega),a0c _ _ _ (by omega)]) c
theorem Wf.dS (hd:btI (s t) i=false):Wf P (dS s t i):=by
 have ht3:=lt3 hv ht;obtain ⟨d0,d1⟩:=hs.d t ht3;have hset:=b3z d0 d1 hi;have hst:=a7H hv hs ht hi hd;have hle:stD (thr P t) (s t)<=stD (thr P t) (a6o (s t) i):=by rw [hst];omega
 refine ⟨fun u hu => ?_,fun n hn => ?_,fun n hn => ?_,fun u j hu hj => ?_,fun u hu => ?_,fun j hj => ?_⟩
 ·unfold Am.dS;by_cases h:u=t
  ·subst h;rw [a0g];exact hset
  rw [a0c _ _ _ h];exact hs.d u hu
 ·unfold Am.dS;rw [a0c _ _ _ (by omega)];exact hs.r n hn
 ·unfold Am.dS;rw [a0c _ _ _ (by omega)];exact hs.c n hn
 ·unfold Am.dS at hj ⊢;rw [a0c _ _ _ (by omega)] at hj;rw [a0c _ _ _ (by omega),a0c _ _ _ (by omega)];exact hs.b u j hu hj
 ·unfold Am.dS;rw [a0c _ _ _ (by omega)];obtain ⟨w0,w1⟩:=hs.w u hu;by_cases h:u=t
  ·subst h;rw [a0g];exact ⟨w0,by omega⟩
  rw [a0c _ _ _ h];exact ⟨w0,w1⟩
 unfold Am.dS;rw [a0c _ _ _ (by omega)];exact hs.z j hj
omit hv hs ht hi in
theorem Wf.upc {P:Pg} {f:Sta} {p:Nat} {v:Int} (hf:Wf P f) (hp:3<=p) (hp2:p<14) (v0:0<=v) (v3:v<=3):Wf P (fup f p v):=by
 refine ⟨fun u hu => ?_,fun n hn => ?_,fun n hn => ?_,fun u j hu hj => ?_,fun u hu => ?_,fun j hj => ?_⟩
 ·rw [a0c _ _ _ (by omega)];exact hf.d u hu
 ·by_cases h:3+n=p
  ·rw [<-h,a0g];exact ⟨v0,v3⟩
  rw [a0c _ _ _ h];exact hf.r n hn
 ·by_cases h:11+n=p
  ·rw [<-h,a0g];exact ⟨v0,v3⟩
  rw [a0c _ _ _ h];exact hf.c n hn
 ·rw [a0c _ _ _ (by omega)] at hj;rw [a0c _ _ _ (by omega),a0c _ _ _ (by omega)];exact hf.b u j hu hj
 ·rw [a0c _ _ _ (by omega),a0c _ _ _ (by omega)];exact hf.w u hu
 rw [a0c _ _ _ (by omega)];exact hf.z j hj
theorem Wf.ld (hd:btI (s t) i=false) (h1:(aAt (thr P t) i).1=1):Wf P (ldS P s t i):=by
 obtain ⟨c0,c1,_⟩:=b1P hv hs ht hi (.inl h1);have hn:=b4G hv hs ht hi h1;obtain ⟨v0,v3⟩:=sn3 hv hs ht hi c0 c1;exact (Wf.dS hv hs ht hi hd).upc (by omega) (by omega) v0 v3
theorem room (hd:btI (s t) i=false) (h2:(aAt (thr P t) i).1=2):0<=s (38+t)/\s (38+t)<4:=by
 have ht3:=lt3 hv ht;obtain ⟨w0,w1⟩:=hs.w t ht3;have hst:=a7H hv hs ht hi hd;rw [if_pos h2] at hst;have:=b6m (thr P t) (a6o (s t) i);have:=hv.w4 t;omega
theorem c2e (hd:btI (s t) i=false) (h2:(aAt (thr P t) i).1=2):vw P (stS P s t i)=doA 2 P (vw P s) t i:=by
 have ht3:=lt3 hv ht;obtain ⟨r0,r1⟩:=room hv hs ht hi hd h2;refine AS.mkE ?_ ?_ ?_ ?_
 ·exact b3F hv hs ht hi (fun u hu=>by unfold stS;rw [a0c _ _ _ (by omega),a0c _ _ _ (by omega),a0c _ _ _ (by omega)])
 ·simp only [doA];rw [if_neg (by omega)];funext u j;exact a9S hv hs ht hi (fun n hn=>by unfold stS Am.dS;rw [a0c _ _ _ (by omega),a0c _ _ _ (by omega),a0c _ _ _ (by omega),a0c _ _ _ (by omega)]) u j
 ·simp only [doA];rw [if_pos ⟨h2,trivial⟩];funext u;show (if u<3 then a3j (stS P s t i) u else [])=fup (vw P s).bf t _ u
  by_cases hut:u=t
  ·subst hut;rw [a0g,if_pos ht3];have e0:(vw P s).bf u=a3j s u:=by show (if u<3 then _ else _)=_;rw [if_pos ht3]
   rw [e0];unfold a3j;have e1:stS P s u i (38+u)=s (38+u)+1:=by unfold stS;rw [a0g]
   rw [e1];have e2:(s (38+u)+1).toNat=(s (38+u)).toNat+1:=by omega
   rw [e2,List.range_succ,List.map_append];congr 1
   ·apply List.map_congr_left;intro j hj;have hj:=List.mem_range.1 hj;unfold stS Am.dS;rw [a0c _ _ _ (by omega),a0c _ _ _ (by omega),a0c _ _ _ (by omega),a0c _ _ _ (by omega),a0c _ _ _ (by omega),a0c _ _ _ (by omega),a0c _ _ _ (by omega),a0c _ _ _ (by omega)]
   simp only [List.map_cons,List.map_nil];unfold stS;rw [a0c _ _ _ (by omega),a0c _ _ _ (by omega),a0g,a0c _ _ _ (by omega),a0g]
  rw [a0c _ _ _ hut];show _=(if u<3 then a3j s u else [])
  by_cases hu:u<3
  ·rw [if_pos hu,if_pos hu];have hw2:=hs.w4 hv hu;unfold a3j;have e1:stS P s t i (38+u)=s (38+u):=by unfold stS Am.dS;rw [a0c _ _ _ (by omega),a0c _ _ _ (by omega),a0c _ _ _ (by omega),a0c _ _ _ (by omega)]
   rw [e1];apply List.map_congr_left;intro j hj;have hj:=List.mem_range.1 hj;unfold stS Am.dS;rw [a0c _ _ _ (by omega),a0c _ _ _ (by omega),a0c _ _ _ (by omega),a0c _ _ _ (by omega),a0c _ _ _ (by omega),a0c _ _ _ (by omega),a0c _ _ _ (by omega),a0c _ _ _ (by omega)]
  rw [if_neg hu,if_neg hu]
 simp only [doA];rw [if_neg (by omega)];funext c;exact a7G hv hs ht hi (fun n hn=>by unfold stS Am.dS;rw [a0c _ _ _ (by omega),a0c _ _ _ (by omega),a0c _ _ _ (by omega),a0c _ _ _ (by omega)]) c
theorem Wf.st (hd:btI (s t) i=false) (h2:(aAt (thr P t) i).1=2):Wf P (stS P s t i):=by
 have ht3:=lt3 hv ht;obtain ⟨r0,r1⟩:=room hv hs ht hi hd h2;obtain ⟨c0,c1,c2⟩:=b1P hv hs ht hi (.inr h2);obtain ⟨c3,c4⟩:=c2 h2;have hD:=Wf.dS hv hs ht hi hd;have hst:=a7H hv hs ht hi hd;rw [if_pos h2] at hst;refine ⟨fun u hu => ?_,fun n hn => ?_,fun n hn => ?_,fun u j hu hj => ?_,fun u hu => ?_,fun j hj => ?_⟩
 ·unfold stS;rw [a0c _ _ _ (by omega),a0c _ _ _ (by omega),a0c _ _ _ (by omega)];exact hD.d u hu
 ·unfold stS;rw [a0c _ _ _ (by omega),a0c _ _ _ (by omega),a0c _ _ _ (by omega)];exact hD.r n hn
 ·unfold stS;rw [a0c _ _ _ (by omega),a0c _ _ _ (by omega),a0c _ _ _ (by omega)];exact hD.c n hn
 ·by_cases hut:u=t
  ·subst hut;have e1:stS P s u i (38+u)=s (38+u)+1:=by unfold stS;rw [a0g]
   rw [e1] at hj;by_cases hjl:(j:Int)<s (38+u)
   ·have:=hs.b u j hu hjl;unfold stS Am.dS;rw [a0c _ _ _ (by omega),a0c _ _ _ (by omega),a0c _ _ _ (by omega),a0c _ _ _ (by omega),a0c _ _ _ (by omega),a0c _ _ _ (by omega),a0c _ _ _ (by omega),a0c _ _ _ (by omega)];exact this
   have e:j=(s (38+u)).toNat:=by omega
   subst e;unfold stS;rw [a0c _ _ _ (by omega),a0c _ _ _ (by omega),a0g,a0c _ _ _ (by omega),a0g];exact ⟨c0,c1,c3,c4⟩
  have hw2:=hs.w4 hv hu;have e1:stS P s t i (38+u)=s (38+u):=by unfold stS Am.dS;rw [a0c _ _ _ (by omega),a0c _ _ _ (by omega),a0c _ _ _ (by omega),a0c _ _ _ (by omega)]
  rw [e1] at hj;have:=hs.b u j hu hj;unfold stS Am.dS;rw [a0c _ _ _ (by omega),a0c _ _ _ (by omega),a0c _ _ _ (by omega),a0c _ _ _ (by omega),a0c _ _ _ (by omega),a0c _ _ _ (by omega),a0c _ _ _ (by omega),a0c _ _ _ (by omega)];exact this
 ·have e2:stS P s t i u=Am.dS s t i u:=by unfold stS;rw [a0c _ _ _ (by omega),a0c _ _ _ (by omega),a0c _ _ _ (by omega)]
  rw [e2];obtain ⟨w0,w1⟩:=hs.w u hu;by_cases hut:u=t
  ·subst hut;have e1:stS P s u i (38+u)=s (38+u)+1:=by unfold stS;rw [a0g]
   rw [e1];unfold Am.dS;rw [a0g,hst];omega
  have e1:stS P s t i (38+u)=s (38+u):=by unfold stS Am.dS;rw [a0c _ _ _ (by omega),a0c _ _ _ (by omega),a0c _ _ _ (by omega),a0c _ _ _ (by omega)]
  rw [e1];unfold Am.dS;rw [a0c _ _ _ hut];exact ⟨w0,w1⟩
 unfold stS;rw [a0c _ _ _ (by omega),a0c _ _ _ (by omega),a0c _ _ _ (by omega)];exact hD.z j hj
end
noncomputable instance:DecidableEq Sta:=Classical.typeDecidableEq _
abbrev LQ:=List Sta×List Sta
def eM (L:List Sta):List (D×D):=L.map fun s=>(.agg (eS s),.agg [])
def eQ (Q:List Sta):List D:=Q.map fun s => .agg (eS s)
def ZL (L:List Sta):Prop := ∀ s∈L,∀ i,41<=i->s i=0
noncomputable def pu (x:LQ) (l:List Sta):LQ:=l.foldl push x
theorem b9X (x:LQ):pu x []=x:=rfl
theorem b6p (x:LQ) (l m:List Sta):pu x (l++m)=pu (pu x l) m:=by unfold pu;rw [List.foldl_append]
theorem b5w (x:LQ) (n:Sta):(push x n).2.length<=x.2.length+1:=by unfold push;split <;> simp
theorem b0I (x:LQ) : ∀ l:List Sta,(pu x l).2.length<=x.2.length+l.length
 | []=>Nat.le_refl _
 | n::l=>by
   have h1:=b0I (push x n) l;have h2:=b5w x n;show (pu (push x n) l).2.length<=_;rw [List.length_cons];omega
theorem b9Y {x:LQ} {n:Sta} (h:ZL x.1) (hn : ∀ i,41<=i->n i=0):ZL (push x n).1:=by
 unfold push;split
 ·exact h
 intro s hs;rcases List.mem_append.1 hs with hs | hs
 ·exact h s hs
 rw [List.mem_singleton.1 hs];exact hn
theorem c2f {x:LQ} (h:ZL x.1) : ∀ {l:List Sta},ZL l->ZL (pu x l).1
 | [],_=>h
 | n::l,hl=>c2f (x:=push x n) (b9Y h (hl n (by simp))) (fun s hs=>hl s (by simp [hs]))
theorem a9T {n:Sta} (hn : ∀ i,41<=i->n i=0) : ∀ {L:List Sta},ZL L->Am.mget (eM L) (.agg (eS n))=if n∈L then some (.agg []) else none
 | [],_=>by simp [eM,Am.mget]
 | s::L,hL=>by
   have ih:=a9T hn (L:=L) (fun u hu=>hL u (by simp [hu]));unfold eM at ih ⊢;simp only [List.map_cons,Am.mget];by_cases h:s=n
   ·subst h;simp
   have : ¬ (D.agg (eS s)=D.agg (eS n)):=fun e=>h (b6l (by injection e) (hL s (by simp)) hn);rw [if_neg this,ih];by_cases hm:n∈L
   ·rw [if_pos hm,if_pos (by simp [hm])]
   rw [if_neg hm,if_neg (by simp [hm];exact fun e=>h e.symm)]
theorem a9U {n:Sta} (hn : ∀ i,41<=i->n i=0) : ∀ {L:List Sta},ZL L->n∉L->Am.mput (eM L) (.agg (eS n)) (.agg [])=eM (L++[n])
 | [],_,_=>by simp [eM,Am.mput]
 | s::L,hL,hm=>by
   have ih:=a9U hn (L:=L) (fun u hu=>hL u (by simp [hu])) (fun h=>hm (by simp [h]));unfold eM at ih ⊢;simp only [List.map_cons,Am.mput,List.cons_append];have : ¬ (D.agg (eS s)=D.agg (eS n)):=fun e=>hm (by rw [b6l (by injection e) (hL s (by simp)) hn];simp);rw [if_neg this,ih]
theorem b3H (n:Sta):Ar.std.conf (zz1) (eS n)=true:=rfl
theorem a9c {n:Sta} (hn : ∀ i,41<=i->n i=0) {x:LQ} (hx:ZL x.1) (hq:x.2.length<4294967295) (x3:List D) :
  M96 Ar.std (eS n) (eM x.1) x3 (eQ x.2)=some (eM (push x n).1,eQ (push x n).2):=by
 obtain ⟨L,Q⟩:=x;simp only at hx hq ⊢;have hg:=a9T hn hx;unfold M96;refine bck (by rw [a5j];rfl) ?_;refine bt (v:=decide (n∈L)) ?_ ?_
 ·refine bt (gaS n rfl) (bck (b3H n) ?_);unfold lk;have:Ar.std.mget (eM L) (.agg (eS n))=_:=hg;rw [this];by_cases hm:n∈L
  ·rw [if_pos hm];simp [hm,cU]
  rw [if_neg hm];simp [hm]
 refine bt (v:=(eM (push (L,Q) n).1,eQ (push (L,Q) n).2)) ?_ rfl;unfold push;by_cases hm:n∈L
 ·rw [if_pos hm];exact cnT (by simp [hm]) rfl
 rw [if_neg hm];refine cnF (by simp [hm]) (bt (gaS n rfl) (bck (b3H n) (bck (by rw [a5j];rfl) ?_)));refine bt (a8T (fun s=>D.agg (eS s)) Q [n] (by simp;omega)) ?_;have:Ar.std.mput (eM L) (.agg (eS n)) (.agg [])=_:=a9U hn hx hm;rw [this];simp [eQ]
theorem b7K {n:Sta} (hn : ∀ i,41<=i->n i=0) {x:LQ} (hx:ZL x.1) (hq:x.2.length<4294967295) (x3 x5:List D) :
  b8T Ar.std (eS n) (eM x.1) x3 (eQ x.2) x5=some (eM (push x n).1,x5,eQ (push x n).2):=by
 obtain ⟨L,Q⟩:=x;simp only at hx hq ⊢;have hg:=a9T hn hx;unfold b8T;refine bck (by rw [a5j];rfl) ?_;refine bt (v:=decide (n∈L)) ?_ ?_
 ·refine bt (gaS n rfl) (bck (b3H n) ?_);unfold lk;have:Ar.std.mget (eM L) (.agg (eS n))=_:=hg;rw [this];by_cases hm:n∈L
  ·rw [if_pos hm];simp [hm,cU]
  rw [if_neg hm];simp [hm]
 refine bt (v:=(eM (push (L,Q) n).1,eQ (push (L,Q) n).2)) ?_ rfl;unfold push;by_cases hm:n∈L
 ·rw [if_pos hm];exact cnT (by simp [hm]) rfl
 rw [if_neg hm];refine cnF (by simp [hm]) (bt (gaS n rfl) (bck (b3H n) (bck (by rw [a5j];rfl) ?_)));refine bt (a8T (fun s=>D.agg (eS s)) Q [n] (by simp;omega)) ?_;have:Ar.std.mput (eM L) (.agg (eS n)) (.agg [])=_:=a9U hn hx hm;rw [this];simp [eQ]
theorem a7I {T X:Type} {step:T->Option (T⊕X)} (n:Nat) (st:LQ->Nat->T) (g:Nat->List Sta) (c B:Nat) (fin:LQ->X) (hg : ∀ i,i<n->ZL (g i)/\(g i).length<=c)
  (hs : ∀ i x,i<n->ZL x.1->x.2.length<=B+c*i->step (st x i)=some (.inl (st (pu x (g i)) (i+1)))) (he : ∀ x,step (st x n)=some (.inr (fin x))) (x0:LQ) (h0:ZL x0.1) (hB:x0.2.length<=B) :
  iter step (st x0 0)=some (fin (pu x0 ((List.range n).flatMap g))):=by
 obtain ⟨x,⟨rfl,_,_⟩,e⟩:=a0M n st (fun i x=>x=pu x0 ((List.range i).flatMap g)/\ZL x.1/\x.2.length<=B+c*i) fin (fun i x hi hR=>by
  obtain ⟨h1,h2,h3⟩:=hR;refine ⟨_,⟨?_,?_,?_⟩,hs i x hi h2 h3⟩
  ·rw [h1,List.range_succ,List.flatMap_append,b6p];simp
  ·exact c2f h2 (hg i hi).1
  have h4:=b0I x (g i);have h5:=(hg i hi).2;rw [Nat.mul_add];omega) (fun x _=>he x) x0 ⟨by simp [b9X],h0,by omega⟩
 exact e
def sc1 (P:Pg) (s:Sta) (t:Nat):List Sta:=if nx s t<(thr P t).length then [doS P s t (nx s t)] else []
noncomputable def b4H (P:Pg) (s:Sta) (t:Nat):List Sta :=
 if nx s t=(thr P t).length then [] else if (aAt (thr P t) (nx s t)).1=1 then [ldS P s t (nx s t)] else if (aAt (thr P t) (nx s t)).1=2 then [stS P s t (nx s t)] else if s (38+t)=0 then [doS P s t (nx s t)] else []
noncomputable def sc2 (P:Pg) (s:Sta) (t:Nat):List Sta:=(if 0<s (38+t) then [a4A s t] else [])++b4H P s t
def wts (a b:Ac):Bool:=decide (a.1=3)||(decide (b.1=3)||decide (a.2.1=b.2.1))
def fr3 (P:Pg) (s:Sta) (t i:Nat):Bool := !btI (s t) i&&(List.range i).all fun j => !wts (aAt (thr P t) i) (aAt (thr P t) j)||btI (s t) j
def b3I (P:Pg) (s:Sta) (t i:Nat):List Sta:=bif fr3 P s t i then [doS P s t i] else []
def sc3 (P:Pg) (s:Sta) (t:Nat):List Sta:=(List.range (thr P t).length).flatMap (b3I P s t)
noncomputable def sck (k:Nat) (P:Pg) (s:Sta) (t:Nat):List Sta:=if k=1 then sc1 P s t else if k=2 then sc2 P s t else sc3 P s t
noncomputable def scs (k:Nat) (P:Pg) (s:Sta):List Sta:=(List.range P.length).flatMap (sck k P s)
theorem b9Z {s:Sta} (h : ∀ i,41<=i->s i=0):ZL [s]:=fun u hu=>by rw [List.mem_singleton.1 hu];exact h
section
variable {P:Pg} (hv:VP P) {s:Sta} (hs:Wf P s) {t:Nat} (ht:t<P.length)
include hv hs ht
theorem b7L:nx s t<=(thr P t).length:=by
 have ht3:=lt3 hv ht;obtain ⟨h1,_,_⟩:=a9Q hv hs ht3;obtain ⟨d0,d1⟩:=hs.d t ht3;rcases Nat.lt_or_ge (thr P t).length (nx s t) with h | h
 ·have:=h1 _ h;rw [b3A d0 d1 (Nat.le_refl _)] at this;cases this
 exact h
theorem a9d:btI (s t) (nx s t)=false:=(a9Q hv hs (lt3 hv ht)).2.1
theorem b6q:(∀ u∈sc1 P s t,Wf P u)/\(sc1 P s t).length<=1:=by
 unfold sc1;split
 ·rename_i h;exact ⟨fun u hu=>by rw [List.mem_singleton.1 hu];exact Wf.do hv hs ht h (a9d hv hs ht),by simp⟩
 exact ⟨fun u hu=>(by cases hu),by simp⟩
theorem b6r:(∀ u∈sc2 P s t,Wf P u)/\(sc2 P s t).length<=2:=by
 have hb:=a9d hv hs ht;have hle:=b7L hv hs ht;have h1:(∀ u∈b4H P s t,Wf P u)/\(b4H P s t).length<=1:=by
  unfold b4H;split
  ·exact ⟨fun u hu=>(by cases hu),by simp⟩
  rename_i hne;have hi:nx s t<(thr P t).length:=by omega
  split
  ·rename_i h;exact ⟨fun u hu=>by rw [List.mem_singleton.1 hu];exact Wf.ld hv hs ht hi hb h,by simp⟩
  split
  ·rename_i h;exact ⟨fun u hu=>by rw [List.mem_singleton.1 hu];exact Wf.st hv hs ht hi hb h,by simp⟩
  split
  ·exact ⟨fun u hu=>by rw [List.mem_singleton.1 hu];exact Wf.do hv hs ht hi hb,by simp⟩
  exact ⟨fun u hu=>(by cases hu),by simp⟩
 unfold sc2;split
 ·rename_i hw;refine ⟨fun u hu => ?_,by have:=h1.2;simp;omega⟩;rcases List.mem_append.1 hu with hu | hu
  ·rw [List.mem_singleton.1 hu];exact Wf.out hv hs ht hw
  exact h1.1 u hu
 exact ⟨fun u hu=>h1.1 u (by simpa using hu),by have:=h1.2;simp;omega⟩
theorem a7J {i:Nat} (hi:i<(thr P t).length):(∀ u∈b3I P s t i,Wf P u)/\(b3I P s t i).length<=1:=by
 unfold b3I;cases h:fr3 P s t i with
 | false=>exact ⟨fun u hu=>(by cases hu),by simp⟩
 | true =>
   unfold fr3 at h;simp only [zp4,Bool.not_eq_true'] at h;exact ⟨fun u hu=>by rw [List.mem_singleton.1 hu];exact Wf.do hv hs ht hi h.1,by simp⟩
theorem b0J {n c:Nat} {g:Nat->List Sta} (h : ∀ i,i<n->(g i).length<=c):((List.range n).flatMap g).length<=n*c:=by
 induction n with
 | zero=>simp
 | succ n ih =>
   rw [List.range_succ,List.flatMap_append,List.length_append,Nat.succ_mul];have:=ih (fun i hi=>h i (by omega));have:=h n (by omega);simp only [List.flatMap_cons,List.flatMap_nil,List.append_nil];omega
theorem c0b:(∀ u∈sc3 P s t,Wf P u)/\(sc3 P s t).length<=7:=by
 unfold sc3;refine ⟨fun u hu => ?_,?_⟩
 ·obtain ⟨i,hi,hu⟩:=List.mem_flatMap.1 hu;exact (a7J hv hs ht (List.mem_range.1 hi)).1 u hu
 have:=b0J hv hs ht (n:=(thr P t).length) (c:=1) (g:=b3I P s t) (fun i hi=>(a7J hv hs ht hi).2);have:=hv.l7 t;omega
theorem a4S (k:Nat):(∀ u∈sck k P s t,Wf P u)/\(sck k P s t).length<=7:=by
 unfold sck;split
 ·exact ⟨(b6q hv hs ht).1,by have:=(b6q hv hs ht).2;omega⟩
 split
 ·exact ⟨(b6r hv hs ht).1,by have:=(b6r hv hs ht).2;omega⟩
 exact c0b hv hs ht
end
section
variable {P:Pg} (hv:VP P) {s:Sta} (hs:Wf P s)
include hv hs
theorem c0c (k:Nat):(∀ u∈scs k P s,Wf P u)/\(scs k P s).length<=21:=by
 unfold scs;refine ⟨fun u hu => ?_,?_⟩
 ·obtain ⟨t,ht,hu⟩:=List.mem_flatMap.1 hu;exact (a4S hv hs (List.mem_range.1 ht) k).1 u hu
 have h1:=b0J hv hs (t:=0) hv.n1 (n:=P.length) (c:=7) (g:=sck k P s) (fun i hi=>(a4S hv hs hi k).2);have:=hv.n3;omega
theorem b3J {t:Nat} (h:t<100):Ar.std.wrp .i64 (Ar.std.zadd (t:Int) 1)=((t+1:Nat):Int):=by
 simp only [a0i,a0k];exact a1Y (n:=100) h (by omega)
theorem b7M {x:LQ} (hx:ZL x.1) (hq:x.2.length<=1000000):b8Q Ar.std (eP P) (eS s) (eM x.1) (eQ x.2)=some (eM (pu x (scs 1 P s)).1,eQ (pu x (scs 1 P s)).2):=by
 unfold b8Q;refine bck (by rw [a5j];rfl) ?_;have key:=a7I (step:=a8f Ar.std (eP P) (eS s)) P.length (fun x t=>((t:Int),eM x.1,eQ x.2)) (sck 1 P s) 7 1000000 (fun x=>(eM x.1,eQ x.2))
  (fun t ht=>⟨fun u hu=>((a4S hv hs ht 1).1 u hu).z,(a4S hv hs ht 1).2⟩)
  (fun t x ht hx hq=>by
   have ht3:=lt3 hv ht;unfold a8f;refine cnT (by simp [ht]) (bt (gaS s rfl) (bt (b6n hv hs ht3) (bt (a1G (a0w ht)) ?_)));rw [b3J hv hs (by omega),a0W];refine bt (v:=(eM (pu x (sck 1 P s t)).1,eQ (pu x (sck 1 P s t)).2)) ?_ rfl;have hsc:sck 1 P s t=sc1 P s t:=by unfold sck;rw [if_pos rfl]
   rw [hsc];unfold sc1;by_cases hi:nx s t<(thr P t).length
   ·rw [if_pos hi];refine cnT (by simp [hi]) (bt (b0H hv hs ht hi) ?_);exact bt (a9c (Wf.do hv hs ht hi (a9d hv hs ht)).z hx (by omega) _) rfl
   ·rw [if_neg hi];exact cnF (by simp;omega) rfl) (fun x=>by
   unfold a8f;exact cnF (by simp) rfl) x hx hq
 exact bt key rfl
theorem b7N {x:LQ} (hx:ZL x.1) (hq:x.2.length<=1000000):b8U Ar.std (eP P) (eS s) (eM x.1) (eQ x.2)=some (eM (pu x (scs 2 P s)).1,eQ (pu x (scs 2 P s)).2):=by
 unfold b8U;refine bck (by rw [a5j];rfl) ?_;have key:=a7I (step:=a8h Ar.std (eP P) (eS s)) P.length (fun x t=>((t:Int),eM x.1,eQ x.2)) (sck 2 P s) 7 1000000 (fun x=>(eM x.1,eQ x.2))
  (fun t ht=>⟨fun u hu=>((a4S hv hs ht 2).1 u hu).z,(a4S hv hs ht 2).2⟩)
  (fun t x ht hx hq=>by
   have ht3:=lt3 hv ht;have hb:=a9d hv hs ht;have hle:=b7L hv hs ht;obtain ⟨w0,w1⟩:=hs.w4 hv ht3;have hsc:sck 2 P s t=(if 0<s (38+t) then [a4A s t] else [])++b4H P s t:=by unfold sck sc2;rw [if_neg (by omega),if_pos rfl]
   unfold a8h;refine cnT (by simp [ht]) ?_;rw [b3J hv hs (by omega)];refine bt (v:=(eM (pu x (sck 2 P s t)).1,eQ (pu x (sck 2 P s t)).2)) ?_ rfl;rw [b1O];refine bc (bc (bt (gcS s (by omega) (kdw (by omega))) ?_));obtain ⟨y,hy⟩ : ∃ y,pu x (if 0<s (38+t) then [a4A s t] else [])=y:=⟨_,rfl⟩
   have hyZ:ZL y.1:=by
    rw [<-hy];split
    ·rename_i hw;exact c2f hx (b9Z (Wf.out hv hs ht hw).z)
    exact hx
   have hyq:y.2.length<=x.2.length+1:=by
    rw [<-hy];split
    ·exact b0I _ _
    exact Nat.le_succ _
   refine bt (v:=(eM y.1,eQ y.2)) ?_ ?_
   ·rw [<-hy];by_cases hw:0<s (38+t)
    ·rw [if_pos hw];refine cnT (by simp [hw]) (bt (gaS s rfl) (bt (b7I hv hs ht hw) ?_));exact bt (a9c (Wf.out hv hs ht hw).z hx (by omega) _) rfl
    rw [if_neg hw];exact cnF (by simp;omega) rfl
   rw [hsc,b6p,hy];refine bt (gaS s rfl) (bt (b6n hv hs ht3) (bt (a1G (a0w ht)) ?_));rw [a0W];by_cases he:nx s t=(thr P t).length
   ·refine cnT (by simp [he]) ?_;unfold b4H;rw [if_pos he];rfl
   ·refine cnF (by simp;omega) ?_;have hi:nx s t<(thr P t).length:=by omega
    have hi7:nx s t<7:=by have:=hv.l7 t;omega
    obtain ⟨⟨ax,ay,az⟩,hA⟩ : ∃ a,aAt (thr P t) (nx s t)=a:=⟨_,rfl⟩;have hget:=a1k hi;rw [hA] at hget;have hsb:b4H P s t=if ax=1 then [ldS P s t (nx s t)] else if ax=2 then [stS P s t (nx s t)] else if s (38+t)=0 then [doS P s t (nx s t)] else []:=by
     unfold b4H;rw [if_neg he,hA]
    refine bt (a0R hget) ?_;rw [hsb];refine bt (v:=(eM (pu y (if ax=1 then [ldS P s t (nx s t)] else if ax=2 then [stS P s t (nx s t)] else if s (38+t)=0 then [doS P s t (nx s t)] else [])).1,eQ (pu y (if ax=1 then [ldS P s t (nx s t)] else if ax=2 then [stS P s t (nx s t)] else if s (38+t)=0 then [doS P s t (nx s t)] else [])).2)) ?_ rfl
    by_cases h1:ax=1
    ·have h1':(aAt (thr P t) (nx s t)).1=1:=by rw [hA];exact h1
     rw [if_pos h1];refine cnT (by simp [h1]) (bt (b7J hv hs ht hi h1') ?_);exact bt (a9c (Wf.ld hv hs ht hi hb h1').z hyZ (by omega) _) rfl
    rw [if_neg h1];refine cnF (by simp [h1]) ?_;by_cases h2:ax=2
    ·have h2':(aAt (thr P t) (nx s t)).1=2:=by rw [hA];exact h2
     obtain ⟨r0,r1⟩:=room hv hs ht hi hb h2';obtain ⟨c0,c1,c2⟩:=b1P hv hs ht hi (.inr h2');obtain ⟨c3,c4⟩:=c2 h2';rw [hA] at c0 c1 c3 c4;simp only at c0 c1 c3 c4;obtain ⟨d0,d1⟩:=hs.d7 hv ht3;rw [if_pos h2];refine bt (v:=(eM (pu y [stS P s t (nx s t)]).1,eQ (pu y [stS P s t (nx s t)]).2)) ?_ rfl;refine cnT (by simp [h2]) ?_;have e:Ar.std.spl Z41 (Ar.std.zadd 0 (Int.ofNat 0)) (eS s)=eS s:=b5v _ _ a7E rfl;rw [e,c1h];refine bck (by rw [a5j];rfl) (bc (bc (bc (bt (gcS s (by omega) (kd8 ht3)) (bnk (by simp) (bc (bc (bt (a8Z s (by omega) (kd8 ht3)) (bc (bc ?_))))))))));rw [c2z d0 d1 hi7,a9a s (by omega) (kd8 ht3)];refine bt (gcS _ (by omega) (kdw (by omega))) ?_;rw [a0c _ _ _ (by omega),a5j,i8w (by omega) (by omega),i8w c3 c4];obtain ⟨w,hw⟩:=zp9 r0;have hw4:w<4:=by omega
     refine bc (bc (bck (by simp;omega) (bck (by simp;omega) (bck (by rw [hw];simp;omega) (bc (bc ?_))))));rw [c2A _ (p:=14+8*t+2*w) (by rw [hw];simp;omega) ay az (by omega) (by omega)];refine bt (gcS _ (by omega) (kdw (by omega))) (bc (bc (bt (a8Z _ (by omega) (kdw (by omega))) ?_)));rw [a0c _ _ _ (by omega),a0c _ _ _ (by omega),a0c _ _ _ (by omega)];have ew:Ar.std.wrp .i64 (Ar.std.zadd (s (38+t)) 1)=s (38+t)+1:=by simp only [a0i,a0k];exact a2Y _ (by omega) (by omega)
     rw [ew,a9a _ (by omega) (kdw (by omega))];have est:fup (fup (fup (fup s t (a6o (s t) (nx s t))) (14+8*t+2*w) ay) (14+8*t+2*w+1) az) (38+t) (s (38+t)+1)=stS P s t (nx s t):=by
      unfold stS dS;rw [hA];have:w=(s (38+t)).toNat:=by omega
      rw [this]
     rw [est];refine bt (gaS _ rfl) ?_;exact bt (b7K (Wf.st hv hs ht hi hb h2').z hyZ (by omega) _ _) rfl
    rw [if_neg h2];refine bt (v:=(eM (pu y (if s (38+t)=0 then [doS P s t (nx s t)] else [])).1,eQ (pu y (if s (38+t)=0 then [doS P s t (nx s t)] else [])).2)) ?_ rfl
    refine cnF (by simp [h2]) ?_;refine bt (v:=(eM (pu y (if s (38+t)=0 then [doS P s t (nx s t)] else [])).1,eQ (pu y (if s (38+t)=0 then [doS P s t (nx s t)] else [])).2)) ?_ rfl
    have h3:ax=3:=by
     rcases a2I (hv.act t (nx s t) hi) with h | h | h
     ·rw [hA] at h;exact absurd h.1 h1
     ·rw [hA] at h;exact absurd h.1 h2
     rw [hA] at h;injection h
    refine cnT (by simp [h3]) ?_;refine bc (bc (bt (gcS s (by omega) (kdw (by omega))) ?_));refine bt (v:=(eM (pu y (if s (38+t)=0 then [doS P s t (nx s t)] else [])).1,eQ (pu y (if s (38+t)=0 then [doS P s t (nx s t)] else [])).2)) ?_ rfl
    by_cases hz:s (38+t)=0
    ·rw [if_pos hz];refine cnT (by simp [hz]) (bt (b0H hv hs ht hi) ?_);exact bt (a9c (Wf.do hv hs ht hi hb).z hyZ (by omega) _) rfl
    rw [if_neg hz];exact cnF (by simp [hz]) rfl) (fun x=>by
   unfold a8h;exact cnF (by simp) rfl) x hx hq
 exact bt key rfl
theorem b3K {t i:Nat} (ht:t<P.length) (hi:i<(thr P t).length) (b:Bool) {ax ay:Int} (hx:(aAt (thr P t) i).1=ax) (hy:(aAt (thr P t) i).2.1=ay) :
  iter (a6s Ar.std (eS s) (t:Int) ax ay (eT ((thr P t).take i))) (b,0)=some (b&&(List.range i).all fun j => !wts (aAt (thr P t) i) (aAt (thr P t) j)||btI (s t) j):=by
 have ht3:=lt3 hv ht;have hl7:=hv.l7 t;obtain ⟨d0,d1⟩:=hs.d7 hv ht3;have hlen:((thr P t).take i).length=i:=by rw [List.length_take];omega
 obtain ⟨z,hz,e⟩:=a0M (step:=a6s Ar.std (eS s) (t:Int) ax ay (eT ((thr P t).take i))) i (fun (z:Bool) j=>(z,(j:Int))) (fun j z=>z=(b&&(List.range j).all fun j => !wts (aAt (thr P t) i) (aAt (thr P t) j)||btI (s t) j)) id
  (fun j z hj hR=>by
   subst hR;obtain ⟨⟨bx,by',bz⟩,hB⟩ : ∃ a,aAt (thr P t) j=a:=⟨_,rfl⟩;have hget:((thr P t).take i)[j]?=some (bx,by',bz):=by rw [List.getElem?_take_of_lt hj,a1k (by omega),hB]
   refine ⟨_,rfl,?_⟩;unfold a6s;refine cnT (by rw [a0W,hlen];simp [hj]) (bt (a0R hget) ?_);refine bt (v:=wts (aAt (thr P t) i) (aAt (thr P t) j)) ?_ ?_
   ·unfold wts;rw [hB,hx,hy];simp only [a2u];by_cases h1:ax=3
    ·simp [h1]
    by_cases h2:bx=3
    ·simp [h1,h2]
    simp [h1,h2]
   rw [b3J hv hs (by omega),List.range_succ,List.all_append];simp only [List.all_cons,List.all_nil,Bool.and_true];generalize (List.range j).all _=q;refine bt (v:=b&&(q&&(!wts (aAt (thr P t) i) (aAt (thr P t) j)||btI (s t) j))) ?_ rfl;cases b with
   | false=>rfl
   | true =>
     cases q with
     | false=>rfl
     | true =>
       simp only [Bool.true_and,cond_true];cases hw:wts (aAt (thr P t) i) (aAt (thr P t) j) with
       | false=>rfl
       | true =>
         simp only [cond_true,Bool.not_true,Bool.false_or];rw [c1h];refine bc (bc (bt (gcS s (by omega) (kd8 ht3)) (bnk (by simp) ?_)));rw [b9R d0 d1 (by omega)])
  (fun z hz=>by
   unfold a6s;exact cnF (by rw [a0W,hlen];simp) rfl) b (by simp)
 exact e.trans (by rw [hz];rfl)
theorem b7O {x:LQ} (hx:ZL x.1) (hq:x.2.length<=1000000):b8V Ar.std (eP P) (eS s) (eM x.1) (eQ x.2)=some (eM (pu x (scs 3 P s)).1,eQ (pu x (scs 3 P s)).2):=by
 unfold b8V;refine bck (by rw [a5j];rfl) ?_;have key:=a7I (step:=a8j Ar.std (eP P) (eS s)) P.length (fun x t=>((t:Int),eM x.1,eQ x.2)) (sck 3 P s) 7 1000000 (fun x=>(eM x.1,eQ x.2))
  (fun t ht=>⟨fun u hu=>((a4S hv hs ht 3).1 u hu).z,(a4S hv hs ht 3).2⟩)
  (fun t x ht hx hq=>by
   have ht3:=lt3 hv ht;have hl7:=hv.l7 t;obtain ⟨d0,d1⟩:=hs.d7 hv ht3;have hsc:sck 3 P s t=sc3 P s t:=by unfold sck;rw [if_neg (by omega),if_neg (by omega)]
   unfold a8j;refine cnT (by simp [ht]) (bt (a1G (a0w ht)) ?_);rw [b3J hv hs (by omega),hsc];unfold sc3;have key:=a7I (step:=a8i Ar.std (eP P) (eS s) (t:Int) (eT (thr P t))) (thr P t).length (fun x i=>((i:Int),eM x.1,eQ x.2)) (b3I P s t) 1 (1000000+7*t) (fun x=>(eM x.1,eQ x.2))
    (fun i hi=>⟨fun u hu=>((a7J hv hs ht hi).1 u hu).z,(a7J hv hs ht hi).2⟩)
    (fun i x hi hx hq=>by
     obtain ⟨⟨ax,ay,az⟩,hA⟩ : ∃ a,aAt (thr P t) i=a:=⟨_,rfl⟩;have hget:=a1k hi;rw [hA] at hget;unfold a8i;refine cnT (by simp [hi]) (bt (a0R hget) ?_);rw [c1h];refine bc (bc (bt (gcS s (by omega) (kd8 ht3)) (bnk (by simp) (bt (a7z (by omega)) ?_))));rw [c2a d0 d1 (by omega)];refine bt (b3K hv hs ht hi _ (by rw [hA]) (by rw [hA])) ?_;rw [b3J hv hs (by omega)];refine bt (v:=(eM (pu x (b3I P s t i)).1,eQ (pu x (b3I P s t i)).2)) ?_ rfl;unfold b3I;have hfr:(!btI (s t) i&&(List.range i).all fun j => !wts (aAt (thr P t) i) (aAt (thr P t) j)||btI (s t) j)=fr3 P s t i:=rfl;rw [hfr];cases h:fr3 P s t i with
     | false=>rfl
     | true =>
       have hbit:btI (s t) i=false:=by
        unfold fr3 at h;simp only [zp4,Bool.not_eq_true'] at h;exact h.1
       simp only [cond_true];refine bt (gaS s rfl) (bt (b0H hv hs ht hi) ?_);exact bt (a9c (Wf.do hv hs ht hi hbit).z hx (by omega) _) rfl) (fun x=>by
     unfold a8i;exact cnF (by simp) rfl) x hx (by omega)
   exact bt key rfl) (fun x=>by
   unfold a8j;exact cnF (by simp) rfl) x hx hq
 exact bt key rfl
end
def Kind (k:Nat):Prop:=k=1\/k=2\/k=3
structure WfK (k:Nat) (P:Pg) (s:Sta):Prop where
 wf:Wf P s
 nb:k≠2 -> ∀ t,t<3->s (38+t)=0
 bz : ∀ t (j:Nat),t<3->j<4->s (38+t)<=(j:Int)->s (14+8*t+2*j)=0/\s (14+8*t+2*j+1)=0
 rz : ∀ n,n<8->sumLd P<=n->s (3+n)=0
theorem WfK.init (k:Nat) (P:Pg):WfK k P s0:=⟨Wf.init P,fun _ _ _=>rfl,fun _ _ _ _ _=>⟨rfl,rfl⟩,fun _ _ _=>rfl⟩
section
variable {k:Nat} {P:Pg} (hv:VP P) {s:Sta} (hk:WfK k P s) {t:Nat} (ht:t<P.length)
include hv hk ht
theorem b7P (i:Nat):((vw P s).t t).1 i=btI (s t) i:=by
 show (decide (t<3)&&btI (s t) i)=_;rw [decide_eq_true (lt3 hv ht),Bool.true_and]
theorem b1Q:(vw P s).bf t=a3j s t:=by
 show (if t<3 then a3j s t else [])=_
 rw [if_pos (lt3 hv ht)]
theorem a4B:a3j s t=[]↔s (38+t)=0:=by
 have:=hk.wf.w4 hv (lt3 hv ht);unfold a3j;rw [List.map_eq_nil_iff,List.range_eq_nil];omega
theorem a6S (h3:k≠3) {i:Nat} (hi:i<(thr P t).length):a2G k (thr P t) ((vw P s).t t) i↔i=nx s t/\(k=2->(aAt (thr P t) i).1=3->s (38+t)=0):=by
 obtain ⟨h1,h2,_⟩:=a9Q hv hk.wf (lt3 hv ht);unfold a2G;rw [b7P hv hk ht];have hb:((vw P s).t t).2=[]↔s (38+t)=0:=by
  show (vw P s).bf t=[]↔_;rw [b1Q hv hk ht];exact a4B hv hk ht
 rw [hb];constructor
 ·rintro ⟨ha,hb,hc⟩;refine ⟨?_,hc⟩;rcases Nat.lt_trichotomy i (nx s t) with h | h | h
  ·rw [h1 i h] at ha;cases ha
  ·exact h
  have:=hb _ h (.inl h3);rw [b7P hv hk ht,h2] at this;cases this
 rintro ⟨rfl,hc⟩;exact ⟨h2,fun j hj _=>by rw [b7P hv hk ht];exact h1 j hj,hc⟩
theorem b6s {i:Nat} (hi:i<(thr P t).length):a2G 3 (thr P t) ((vw P s).t t) i↔fr3 P s t i=true:=by
 unfold a2G fr3;rw [b7P hv hk ht,zp4,Bool.not_eq_true',List.all_eq_true];constructor
 ·rintro ⟨ha,hb,_⟩;refine ⟨ha,fun j hj => ?_⟩;have hj:=List.mem_range.1 hj;cases hw:wts (aAt (thr P t) i) (aAt (thr P t) j) with
  | false=>rfl
  | true =>
    have hm:must 3 (aAt (thr P t) i) (aAt (thr P t) j):=by
     unfold wts at hw;simp at hw;unfold must;omega
    have:=hb j hj hm;rw [b7P hv hk ht] at this;rw [this];rfl
 rintro ⟨ha,hb⟩;refine ⟨ha,fun j hj hm => ?_,fun h=>by omega⟩;have:=hb j (List.mem_range.2 hj);rw [b7P hv hk ht];have hw:wts (aAt (thr P t) i) (aAt (thr P t) j)=true:=by
  unfold must at hm;unfold wts;simp;omega
 rw [hw] at this;simpa using this
noncomputable def a4C (k:Nat) (P:Pg) (s:Sta) (t i:Nat):Sta :=
 if k=2/\(aAt (thr P t) i).1=1 then ldS P s t i else if k=2/\(aAt (thr P t) i).1=2 then stS P s t i else doS P s t i
theorem b6t {i:Nat} (hi:i<(thr P t).length) (hb:btI (s t) i=false):vw P (a4C k P s t i)=doA k P (vw P s) t i:=by
 unfold a4C;by_cases h1:k=2/\(aAt (thr P t) i).1=1
 ·rw [if_pos h1];exact c2d hv hk.wf ht hi h1.2
 rw [if_neg h1];by_cases h2:k=2/\(aAt (thr P t) i).1=2
 ·rw [if_pos h2];obtain ⟨rfl,h2⟩:=h2;exact c2e hv hk.wf ht hi hb h2
 rw [if_neg h2];refine b9V hv hk.wf ht hi ?_ ?_
 ·by_cases h:k=2
  ·exact .inr (fun h'=>h2 ⟨h,h'⟩)
  exact .inl h
 by_cases h:k=2
 ·exact .inr (fun h'=>h1 ⟨h,h'⟩)
 refine .inl ?_;rw [b1Q hv hk ht];exact (a4B hv hk ht).2 (hk.nb h t (lt3 hv ht))
theorem a1q {i j:Nat} (hj:3<=j):dS s t i j=s j:=by
 have:=lt3 hv ht;unfold dS;rw [a0c _ _ _ (by omega)]
theorem b6u {i:Nat} (hi:i<(thr P t).length) (hb:btI (s t) i=false):WfK k P (a4C k P s t i):=by
 have ht3:=lt3 hv ht;have hs:=hk.wf;unfold a4C;by_cases h1:k=2/\(aAt (thr P t) i).1=1
 ·rw [if_pos h1];have hn:=b4G hv hs ht hi h1.2;have hlt:=a6R ht hi h1.2;refine ⟨Wf.ld hv hs ht hi hb h1.2,fun h=>absurd h1.1 h,fun u j hu hj hw => ?_,fun n hn2 hle => ?_⟩
  ·unfold ldS at hw ⊢;rw [a0c _ _ _ (by omega),a1q hv hk ht (by omega)] at hw;rw [a0c _ _ _ (by omega),a0c _ _ _ (by omega),a1q hv hk ht (by omega),a1q hv hk ht (by omega)];exact hk.bz u j hu hj hw
  unfold ldS;rw [a0c _ _ _ (by omega),a1q hv hk ht (by omega)];exact hk.rz n hn2 hle
 ·rw [if_neg h1];by_cases h2:k=2/\(aAt (thr P t) i).1=2
  ·rw [if_pos h2];obtain ⟨r0,r1⟩:=room hv hs ht hi hb h2.2;refine ⟨Wf.st hv hs ht hi hb h2.2,fun h=>absurd h2.1 h,fun u j hu hj hw => ?_,fun n hn2 hle => ?_⟩
   ·by_cases hut:u=t
    ·subst hut;unfold stS at hw ⊢;rw [a0g] at hw;have:=hk.bz u j hu hj (by omega);rw [a0c _ _ _ (by omega),a0c _ _ _ (by omega),a0c _ _ _ (by omega),a0c _ _ _ (by omega),a0c _ _ _ (by omega),a0c _ _ _ (by omega),a1q hv hk ht (by omega),a1q hv hk ht (by omega)];exact this
    unfold stS at hw ⊢;rw [a0c _ _ _ (by omega),a0c _ _ _ (by omega),a0c _ _ _ (by omega),a1q hv hk ht (by omega)] at hw;rw [a0c _ _ _ (by omega),a0c _ _ _ (by omega),a0c _ _ _ (by omega),a0c _ _ _ (by omega),a0c _ _ _ (by omega),a0c _ _ _ (by omega),a1q hv hk ht (by omega),a1q hv hk ht (by omega)];exact hk.bz u j hu hj hw
   unfold stS;rw [a0c _ _ _ (by omega),a0c _ _ _ (by omega),a0c _ _ _ (by omega),a1q hv hk ht (by omega)];exact hk.rz n hn2 hle
  ·rw [if_neg h2]

   have hout : ∀ j,14<=j->doS P s t i j=s j:=by
    intro j hj;unfold doS;split
    ·rename_i hl;have hn:=b4G hv hs ht hi hl;rw [a0c _ _ _ (by omega),a1q hv hk ht (by omega)]
    split
    ·rename_i hl;obtain ⟨c0,c1,_⟩:=b1P hv hs ht hi (.inr hl);rw [a0c _ _ _ (by omega),a1q hv hk ht (by omega)]
    exact a1q hv hk ht (by omega)
   refine ⟨Wf.do hv hs ht hi hb,fun h u hu => ?_,fun u j hu hj hw => ?_,fun n hn2 hle => ?_⟩
   ·rw [hout _ (by omega)];exact hk.nb h u hu
   ·rw [hout _ (by omega)] at hw;rw [hout _ (by omega),hout _ (by omega)];exact hk.bz u j hu hj hw
   unfold doS;split
   ·rename_i hl;have hlt:=a6R ht hi hl;rw [a0c _ _ _ (by omega),a1q hv hk ht (by omega)];exact hk.rz n hn2 hle
   split
   ·rename_i hl;obtain ⟨c0,c1,_⟩:=b1P hv hs ht hi (.inr hl);rw [a0c _ _ _ (by omega),a1q hv hk ht (by omega)];exact hk.rz n hn2 hle
   rw [a1q hv hk ht (by omega)];exact hk.rz n hn2 hle
theorem c0d (h2:k=2) (hw:0<s (38+t)):WfK k P (a4A s t):=by
 have ht3:=lt3 hv ht;have hs:=hk.wf;obtain ⟨c0,c1,v0,v1⟩:=a3k hv hs ht hw;obtain ⟨w0,w1⟩:=hs.w4 hv ht3;refine ⟨Wf.out hv hs ht hw,fun h=>absurd h2 h,fun u j hu hj hle => ?_,fun n hn2 hle => ?_⟩
 ·by_cases hut:u=t
  ·subst hut;have e1:a4A s u (38+u)=s (38+u)-1:=by rw [a0s hv hs ht,if_neg (by omega),if_neg (by omega),if_pos rfl]
   rw [e1] at hle;have g : ∀ q,q<2->a4A s u (14+8*u+2*j+q)=0:=by
    intro q hq;rw [a0s hv hs ht];by_cases hjw:j=(s (38+u)-1).toNat
    ·rcases (show q=0\/q=1 by omega) with rfl | rfl
     ·rw [if_neg (by omega),if_pos (by omega)]
     rw [if_pos (by omega)]
    rw [if_neg (by omega),if_neg (by omega),if_neg (by omega)];by_cases hj3:j=3
    ·rw [if_neg (by omega),if_neg (by omega)];have:=hk.bz u j hu hj (by omega);rcases (show q=0\/q=1 by omega) with rfl | rfl
     ·exact this.1
     exact this.2
    rw [if_pos (by omega),if_neg (by omega)];have:=hk.bz u (j+1) hu (by omega) (by omega);rcases (show q=0\/q=1 by omega) with rfl | rfl
    ·exact this.1
    exact this.2
   exact ⟨g 0 (by omega),g 1 (by omega)⟩
  have e1:a4A s t (38+u)=s (38+u):=by rw [a0s hv hs ht,if_neg (by omega),if_neg (by omega),if_neg (by omega),if_neg (by omega),if_neg (by omega)]
  rw [e1] at hle;have:=hk.bz u j hu hj hle;rw [a0s hv hs ht,a0s hv hs ht,if_neg (by omega),if_neg (by omega),if_neg (by omega),if_neg (by omega),if_neg (by omega),if_neg (by omega),if_neg (by omega),if_neg (by omega),if_neg (by omega),if_neg (by omega)];exact this
 rw [a0s hv hs ht,if_neg (by omega),if_neg (by omega),if_neg (by omega),if_neg (by omega),if_neg (by omega)];exact hk.rz n hn2 hle
end
def a9u (k:Nat) (P:Pg) (s u:Sta):Prop :=
 (∃ t i,t<P.length/\i<(thr P t).length/\a2G k (thr P t) ((vw P s).t t) i/\u=a4C k P s t i)\/(∃ t,t<P.length/\k=2/\0<s (38+t)/\u=a4A s t)
section
variable {k:Nat} (hK:Kind k) {P:Pg} (hv:VP P) {s:Sta} (hk:WfK k P s)
include hK hv hk
theorem a3l {u:Sta}:u∈scs k P s↔a9u k P s u:=by
 unfold scs;rw [List.mem_flatMap];constructor
 ·rintro ⟨t,ht,hu⟩;have ht:=List.mem_range.1 ht;have hb:=a9d hv hk.wf ht;unfold sck at hu;rcases hK with rfl | rfl | rfl
  ·rw [if_pos rfl] at hu;unfold sc1 at hu;split at hu
   ·rename_i hi;refine .inl ⟨t,nx s t,ht,hi,(a6S hv hk ht (by omega) hi).2 ⟨rfl,fun h=>by omega⟩,?_⟩;rw [List.mem_singleton.1 hu];unfold a4C;rw [if_neg (by omega),if_neg (by omega)]
   cases hu
  ·rw [if_neg (by omega),if_pos rfl] at hu;unfold sc2 at hu;rcases List.mem_append.1 hu with hu | hu
   ·split at hu
    ·rename_i hw;exact .inr ⟨t,ht,rfl,hw,List.mem_singleton.1 hu⟩
    cases hu
   unfold b4H at hu;have hle:=b7L hv hk.wf ht;split at hu
   ·cases hu
   rename_i hne;have hi:nx s t<(thr P t).length:=by omega
   split at hu
   ·rename_i h1;refine .inl ⟨t,nx s t,ht,hi,(a6S hv hk ht (by omega) hi).2 ⟨rfl,fun _ h=>by omega⟩,?_⟩;rw [List.mem_singleton.1 hu];unfold a4C;rw [if_pos ⟨rfl,h1⟩]
   rename_i h1;split at hu
   ·rename_i h2;refine .inl ⟨t,nx s t,ht,hi,(a6S hv hk ht (by omega) hi).2 ⟨rfl,fun _ h=>by omega⟩,?_⟩;rw [List.mem_singleton.1 hu];unfold a4C;rw [if_neg (by omega),if_pos ⟨rfl,h2⟩]
   rename_i h2;split at hu
   ·rename_i hz;refine .inl ⟨t,nx s t,ht,hi,(a6S hv hk ht (by omega) hi).2 ⟨rfl,fun _ _=>hz⟩,?_⟩;rw [List.mem_singleton.1 hu];unfold a4C;rw [if_neg (by omega),if_neg (by omega)]
   cases hu
  rw [if_neg (by omega),if_neg (by omega)] at hu;unfold sc3 at hu;obtain ⟨i,hi,hu⟩:=List.mem_flatMap.1 hu;have hi:=List.mem_range.1 hi;unfold b3I at hu;cases hf:fr3 P s t i with
  | false=>rw [hf] at hu;cases hu
  | true =>
    rw [hf] at hu;refine .inl ⟨t,i,ht,hi,(b6s hv hk ht hi).2 hf,?_⟩;rw [List.mem_singleton.1 hu];unfold a4C;rw [if_neg (by omega),if_neg (by omega)]
 rintro (⟨t,i,ht,hi,hm,rfl⟩ | ⟨t,ht,rfl,hw,rfl⟩)
 ·refine ⟨t,List.mem_range.2 ht,?_⟩;unfold sck;rcases hK with rfl | rfl | rfl
  ·obtain ⟨rfl,_⟩:=(a6S hv hk ht (by omega) hi).1 hm;rw [if_pos rfl];unfold sc1 a4C;rw [if_pos hi,if_neg (by omega),if_neg (by omega)];simp
  ·obtain ⟨rfl,hz⟩:=(a6S hv hk ht (by omega) hi).1 hm;rw [if_neg (by omega),if_pos rfl];unfold sc2;refine List.mem_append.2 (.inr ?_);unfold b4H;rw [if_neg (show ¬ nx s t=(thr P t).length by omega)];by_cases h1:(aAt (thr P t) (nx s t)).1=1
   ·have e:a4C 2 P s t (nx s t)=ldS P s t (nx s t):=by unfold a4C;rw [if_pos ⟨rfl,h1⟩]
    rw [if_pos h1,e];simp
   rw [if_neg h1];by_cases h2:(aAt (thr P t) (nx s t)).1=2
   ·have e:a4C 2 P s t (nx s t)=stS P s t (nx s t):=by unfold a4C;rw [if_neg (fun h=>h1 h.2),if_pos ⟨rfl,h2⟩]
    rw [if_pos h2,e];simp
   rw [if_neg h2];have e:a4C 2 P s t (nx s t)=doS P s t (nx s t):=by unfold a4C;rw [if_neg (fun h=>h1 h.2),if_neg (fun h=>h2 h.2)]
   have h3:(aAt (thr P t) (nx s t)).1=3:=by
    rcases a2I (hv.act t (nx s t) hi) with h | h | h
    ·exact absurd h.1 h1
    ·exact absurd h.1 h2
    rw [h]
   rw [if_pos (hz rfl h3),e];simp
  rw [if_neg (by omega),if_neg (by omega)];unfold sc3 b3I a4C;rw [if_neg (by omega),if_neg (by omega)];refine List.mem_flatMap.2 ⟨i,List.mem_range.2 hi,?_⟩;rw [(b6s hv hk ht hi).1 hm];simp
 refine ⟨t,List.mem_range.2 ht,?_⟩;unfold sck sc2;rw [if_neg (by omega),if_pos rfl,if_pos hw];simp
theorem a7K {t i:Nat} (ht:t<P.length) (hm:a2G k (thr P t) ((vw P s).t t) i):btI (s t) i=false:=by
 have:=hm.1
 rwa [b7P hv hk ht] at this
theorem a9u.wf {u:Sta} (h:a9u k P s u):WfK k P u:=by
 rcases h with ⟨t,i,ht,hi,hm,rfl⟩ | ⟨t,ht,h2,hw,rfl⟩
 ·exact b6u hv hk ht hi (a7K hK hv hk ht hm)
 exact c0d hv hk ht h2 hw
theorem a9u.stp {u:Sta} (h:a9u k P s u):Stp k P (vw P s) (vw P u):=by
 rcases h with ⟨t,i,ht,hi,hm,rfl⟩ | ⟨t,ht,h2,hw,rfl⟩
 ·rw [b6t hv hk ht hi (a7K hK hv hk ht hm)];exact .act t i ht hi hm
 rw [b6o hv hk.wf ht hw];refine .out t ht h2 ?_;rw [b1Q hv hk ht];intro h;have:=(a4B hv hk ht).1 h;omega
theorem b0K {a:AS} (h:Stp k P (vw P s) a) : ∃ u,a9u k P s u/\vw P u=a:=by
 cases h with
 | act t i ht hi hm=>exact ⟨_,.inl ⟨t,i,ht,hi,hm,rfl⟩,b6t hv hk ht hi (a7K hK hv hk ht hm)⟩
 | out t ht h2 hb =>
   rw [b1Q hv hk ht] at hb;have hw:0<s (38+t):=by
    have:=hk.wf.w4 hv (lt3 hv ht);have:s (38+t)≠0:=fun h=>hb ((a4B hv hk ht).2 h);omega
   exact ⟨_,.inr ⟨t,ht,h2,hw,rfl⟩,b6o hv hk.wf ht hw⟩
end
section
variable {k:Nat} (hK:Kind k) {P:Pg} (hv:VP P)
include hK hv
theorem a1t {u:Sta} (h:Reach (scs k P) s0 u):WfK k P u/\Stps k P AS.init (vw P u):=by
 induction h with
 | init=>exact ⟨WfK.init k P,by rw [b3B];exact .refl _⟩
 | step _ hn ih =>
   have:=(a3l hK hv ih.1).1 hn;exact ⟨a9u.wf hK hv ih.1 this,.tail ih.2 (a9u.stp hK hv ih.1 this)⟩
theorem a6T {a:AS} (h:Stps k P AS.init a) : ∃ u,Reach (scs k P) s0 u/\vw P u=a:=by
 have key : ∀ {x a:AS},Stps k P x a->x=AS.init -> ∃ u,Reach (scs k P) s0 u/\vw P u=a:=by
  intro x a h
  induction h with
  | refl=>rintro rfl;exact ⟨s0,.init,b3B P⟩
  | tail _ h' ih =>
    intro e;obtain ⟨u,h1,rfl⟩:=ih e;obtain ⟨v,h2,h3⟩:=b0K hK hv (a1t hK hv h1).1 h';exact ⟨v,.step h1 ((a3l hK hv (a1t hK hv h1).1).2 h2),h3⟩
 exact key h rfl
end
def unD (l:List Ac) (a:Int):Nat:=(List.range l.length).countP fun i => !btI a i
def muT (P:Pg) (s:Sta) (t:Nat):Nat:=2*unD (thr P t) (s t)+(s (38+t)).toNat
def mu (P:Pg) (s:Sta):Nat:=((List.range P.length).map (muT P s)).sum
theorem b6v {n t:Nat} {f g:Nat->Nat} (ht:t<n) (hlt:g t<f t) (he : ∀ u,u<n->u≠t->g u=f u):((List.range n).map g).sum<((List.range n).map f).sum:=by
 induction n with
 | zero=>omega
 | succ n ih =>
   rw [List.range_succ,List.map_append,List.map_append,List.sum_append,List.sum_append];simp only [List.map_cons,List.map_nil,List.sum_cons,List.sum_nil,Nat.add_zero];rcases Nat.lt_or_eq_of_le (Nat.le_of_lt_succ ht) with h | h
   ·have:=ih h (fun u hu=>he u (by omega));have:=he n (by omega) (by omega);omega
   subst h;have:(List.range t).map g=(List.range t).map f:=List.map_congr_left fun u hu=>he u (by have:=List.mem_range.1 hu;omega) (by have:=List.mem_range.1 hu;omega);rw [this];omega
theorem b7Q {l:List Ac} {a:Int} {i:Nat} (hi:i<l.length) (hb:btI a i=false):unD l (a6o a i)+1=unD l a:=by
 unfold unD;have key : ∀ n,((List.range n).countP fun j => !btI (a6o a i) j)+(if i<n then 1 else 0)=(List.range n).countP fun j => !btI a j:=by
  intro n
  induction n with
  | zero=>simp
  | succ n ih =>
    have e1 : ∀ (b:Bool),List.countP (fun _ => !b) [n]=if b then 0 else 1:=by intro b;cases b <;> rfl
    have e2:List.countP (fun j => !btI (a6o a i) j) [n]=if btI (a6o a i) n then 0 else 1:=by rw [List.countP_singleton];cases btI (a6o a i) n <;> rfl
    have e3:List.countP (fun j => !btI a j) [n]=if btI a n then 0 else 1:=by rw [List.countP_singleton];cases btI a n <;> rfl
    rw [List.range_succ,List.countP_append,List.countP_append,e2,e3];by_cases hn:n=i
    ·subst hn;have e4:btI (a6o a n) n=true:=by rw [a5R];simp
     rw [e4,hb];simp only [Nat.lt_irrefl,if_false] at ih;simp only [Nat.lt_succ_self,if_true,Bool.false_eq_true,if_false];omega
    have e4:btI (a6o a i) n=btI a n:=by rw [a5R];simp [hn]
    rw [e4];by_cases hlt:i<n
    ·have h1:i<n+1:=by omega
     simp only [hlt,h1,if_true] at ih ⊢;omega
    have h1 : ¬ i<n+1:=by omega
    simp only [hlt,h1,if_false] at ih ⊢;omega
 have:=key l.length;rw [if_pos hi] at this;exact this
section
variable {k:Nat} (hK:Kind k) {P:Pg} (hv:VP P) {s:Sta} (hk:WfK k P s)
include hK hv hk
theorem a9u.mu {u:Sta} (h:a9u k P s u):mu P u<mu P s:=by
 have hs:=hk.wf;rcases h with ⟨t,i,ht,hi,hm,rfl⟩ | ⟨t,ht,h2,hw,rfl⟩
 ·have ht3:=lt3 hv ht;have hb:=a7K hK hv hk ht hm;have hc:=b7Q hi hb;have hd : ∀ u,u<3->a4C k P s t i u=dS s t i u:=by
   intro u hu;unfold a4C;split
   ·unfold ldS;rw [a0c _ _ _ (by omega)]
   split
   ·unfold stS;rw [a0c _ _ _ (by omega),a0c _ _ _ (by omega),a0c _ _ _ (by omega)]
   unfold doS;split
   ·rw [a0c _ _ _ (by omega)]
   split
   ·rw [a0c _ _ _ (by omega)]
   rfl
  have hw : ∀ u,u<3->a4C k P s t i (38+u)=s (38+u)\/(u=t/\0<=s (38+t)/\a4C k P s t i (38+t)=s (38+t)+1):=by
   intro u hu;unfold a4C;split
   ·rename_i hl;have hn:=b4G hv hs ht hi hl.2;refine .inl ?_;unfold ldS;rw [a0c _ _ _ (by omega),a1q hv hk ht (by omega)]
   split
   ·rename_i hl;obtain ⟨r0,r1⟩:=room hv hs ht hi hb hl.2;by_cases hut:u=t
    ·refine .inr ⟨hut,r0,?_⟩;unfold stS;rw [a0g]
    refine .inl ?_;unfold stS;rw [a0c _ _ _ (by omega),a0c _ _ _ (by omega),a0c _ _ _ (by omega),a1q hv hk ht (by omega)]
   refine .inl ?_;unfold doS;split
   ·rename_i hl;have hn:=b4G hv hs ht hi hl;rw [a0c _ _ _ (by omega),a1q hv hk ht (by omega)]
   split
   ·rename_i hl;obtain ⟨c0,c1,_⟩:=b1P hv hs ht hi (.inr hl);rw [a0c _ _ _ (by omega),a1q hv hk ht (by omega)]
   exact a1q hv hk ht (by omega)
  refine b6v ht ?_ (fun u hu hne => ?_)
  ·unfold muT;have e:a4C k P s t i t=a6o (s t) i:=by rw [hd t ht3];unfold dS;rw [a0g]
   rw [e];rcases hw t ht3 with h | ⟨_,h0,h⟩
   ·rw [h];omega
   rw [h];omega
  have hu3:=lt3 hv hu;unfold muT;have e:a4C k P s t i u=s u:=by rw [hd u hu3];unfold dS;rw [a0c _ _ _ hne]
  rw [e];rcases hw u hu3 with h | ⟨h,_⟩
  ·rw [h]
  exact absurd h hne
 have ht3:=lt3 hv ht;obtain ⟨c0,c1,v0,v1⟩:=a3k hv hs ht hw;obtain ⟨w0,w1⟩:=hs.w4 hv ht3;have hlow : ∀ u,u<3->a4A s t u=s u:=by
  intro u hu;rw [a0s hv hs ht,if_neg (by omega),if_neg (by omega),if_neg (by omega),if_neg (by omega),if_neg (by omega)]
 refine b6v ht ?_ (fun u hu hne => ?_)
 ·unfold muT;have e1:a4A s t (38+t)=s (38+t)-1:=by rw [a0s hv hs ht,if_neg (by omega),if_neg (by omega),if_pos rfl]
  rw [e1,hlow t ht3];omega
 have hu3:=lt3 hv hu;unfold muT;have e1:a4A s t (38+u)=s (38+u):=by rw [a0s hv hs ht,if_neg (by omega),if_neg (by omega),if_neg (by omega),if_neg (by omega),if_neg (by omega)]
 rw [e1,hlow u hu3]
end
theorem b3L {P:Pg} (hv:VP P):mu P s0<=42:=by
 unfold mu;have h1 : ∀ t,muT P s0 t<=14:=by
  intro t;unfold muT unD;have:(List.range (thr P t).length).countP (fun i => !btI (s0 t) i)<=(thr P t).length:=by
   have:=List.countP_le_length (p:=fun i => !btI (s0 t) i) (l:=List.range (thr P t).length);simpa using this
  have:=hv.l7 t;have e:(s0 (38+t)).toNat=0:=rfl;omega
 have h2 : ∀ n,((List.range n).map (muT P s0)).sum<=14*n:=by
  intro n
  induction n with
  | zero=>simp
  | succ n ih =>
    rw [List.range_succ,List.map_append,List.sum_append];have:=h1 n;simp;omega
 have:=h2 P.length;have:=hv.n3;omega
def b2a (a b:Int):Int:=if a<b then -1 else if b<a then 1 else 0
def cmpL:List Int->List Int->Int
 | [],[]=>0
 | [],_::_ => -1
 | _::_,[]=>1
 | a::l,b::m=>if b2a a b=0 then cmpL l m else b2a a b
def ltL (a b:List Int):Prop:=cmpL a b<0
theorem a4b {a b:Int}:b2a a b=0↔a=b:=by
 unfold b2a;by_cases h1:a<b
 ·rw [if_pos h1];omega
 rw [if_neg h1];by_cases h2:b<a
 ·rw [if_pos h2];omega
 rw [if_neg h2];omega
theorem b7R {a b:Int}:b2a a b<0↔a<b:=by
 unfold b2a;by_cases h1:a<b
 ·rw [if_pos h1];omega
 rw [if_neg h1];by_cases h2:b<a
 ·rw [if_pos h2];omega
 rw [if_neg h2];omega
theorem a5T : ∀ {a b:List Int},cmpL a b=0↔a=b
 | [],[]=>by simp [cmpL]
 | [],_::_=>by simp [cmpL]
 | _::_,[]=>by simp [cmpL]
 | a::l,b::m=>by
   unfold cmpL;split
   ·rename_i h;rw [a5T,List.cons.injEq];exact ⟨fun e=>⟨a4b.1 h,e⟩,fun e=>e.2⟩
   rename_i h;rw [List.cons.injEq];exact ⟨fun e=>absurd e h,fun e=>absurd (a4b.2 e.1) h⟩
theorem a7L {a b:Int} {l m:List Int}:ltL (a::l) (b::m)↔a<b\/(a=b/\ltL l m):=by
 unfold ltL;rw [cmpL];split
 ·rename_i h;have e:=a4b.1 h;subst e;constructor
  ·intro h;exact .inr ⟨rfl,h⟩
  rintro (h | h)
  ·omega
  exact h.2
 rename_i h;rw [b7R];constructor
 ·exact .inl
 rintro (h' | h')
 ·exact h'
 exact absurd (a4b.2 h'.1) h
theorem a2S (a:List Int) : ¬ ltL a a:=by
 unfold ltL;rw [a5T.2 rfl];omega
theorem a3D : ∀ {a b c:List Int},ltL a b->ltL b c->ltL a c
 | [],[],_,h,_=>absurd h (a2S _)
 | [],_::_,[],_,h=>by simp [ltL,cmpL] at h
 | [],_::_,_::_,_,_=>by simp [ltL,cmpL]
 | _::_,[],_,h,_=>by simp [ltL,cmpL] at h
 | _::_,_::_,[],_,h=>by simp [ltL,cmpL] at h
 | a::l,b::m,c::n,h1,h2=>by
   rw [a7L] at h1 h2 ⊢;rcases h1 with h1 | ⟨rfl,h1⟩
   ·rcases h2 with h2 | ⟨rfl,_⟩
    ·exact .inl (by omega)
    exact .inl h1
   rcases h2 with h2 | ⟨rfl,h2⟩
   ·exact .inl h2
   exact .inr ⟨rfl,a3D h1 h2⟩
theorem a4D : ∀ {a b:List Int},¬ ltL a b -> ¬ ltL b a->a=b
 | [],[],_,_=>rfl
 | [],_::_,h,_=>absurd (by simp [ltL,cmpL]) h
 | _::_,[],_,h=>absurd (by simp [ltL,cmpL]) h
 | a::l,b::m,h1,h2=>by
   rw [a7L] at h1 h2;have e:a=b:=by omega
   subst e;rw [a4D (a:=l) (b:=m) (fun h=>h1 (.inr ⟨rfl,h⟩)) (fun h=>h2 (.inr ⟨rfl,h⟩))]
theorem b7S (x y:Int):b8W Ar.std x y=some (b2a x y):=by
 have h : ∀ z,b8E Ar.std z=some false:=fun z=>by unfold b8E;simp
 unfold b8W;rw [h,h];unfold b2a;simp only [Option.bind_some,cond_false,a3h];by_cases h1:x<y
 ·rw [if_pos h1];exact cnT (by simp [h1]) rfl
 rw [if_neg h1];refine cnF (by simp [h1]) ?_;by_cases h2:y<x
 ·rw [if_pos h2];exact cnT (by simp [h2]) rfl
 rw [if_neg h2];exact cnF (by simp [h2]) rfl
theorem b0L {a b:List Int} (ha:a.length<4294967296) (hb:b.length<4294967296):M98 Ar.std (a0q a) (a0q b)=some (cmpL a b):=by
 have key : ∀ k i,i+k=a.length->i<=b.length -> ∃ x,iter (a9w Ar.std (a0q a) (a0q b)) (i:Int)=some x /\
   Sum.elim (fun _:Unit=>bif Ar.std.zlt (Ar.std.len (a0q a)) (Ar.std.len (a0q b)) then some (-1:Int) else some 0) (fun v:Int=>some v) x=some (cmpL (a.drop i) (b.drop i)):=by
  intro k
  induction k with
  | zero =>
    intro i hi hib;obtain rfl:i=a.length:=by omega
    refine ⟨.inl (),a0E (by unfold a9w;exact cnF (by simp) rfl),?_⟩;rw [List.drop_length];simp only [Sum.elim_inl,a0W,a3h];by_cases h:a.length<b.length
    ·rw [cnT (r:=_) (by simp;omega) rfl,List.drop_eq_getElem_cons h];rfl
    rw [cnF (r:=_) (by simp;omega) rfl,List.drop_eq_nil_of_le (by omega)];rfl
  | succ k ih =>
    intro i hi hib;have hia:i<a.length:=by omega
    have h1:=zp1 hia;rw [List.drop_eq_getElem_cons hia];by_cases hb':i<b.length
    ·have h2:=zp1 hb';rw [List.drop_eq_getElem_cons hb'];have hst:a9w Ar.std (a0q a) (a0q b) (i:Int)=some (bif decide (b2a a[i] b[i]=0) then .inl ((i+1:Nat):Int) else .inr (.inr (b2a a[i] b[i]))):=by
      unfold a9w;refine cnT (by simp;omega) (bt (a0R h1) (cnF (by simp;omega) (bt (a0R h2) (bt (b7S _ _) ?_))));simp only [a2u,a0i,a0k];rw [a2Y _ (by omega) (by omega)];cases decide (b2a a[i] b[i]=0) <;> rfl
     by_cases hz:b2a a[i] b[i]=0
     ·rw [decide_eq_true hz] at hst;obtain ⟨x,e1,e2⟩:=ih (i+1) (by omega) (by omega);refine ⟨x,by rw [a1d hst];exact e1,?_⟩;rw [e2,cmpL,if_pos hz]
     rw [decide_eq_false hz] at hst;refine ⟨_,a0E hst,?_⟩;rw [cmpL,if_neg hz];rfl
    rw [List.drop_eq_nil_of_le (by omega:b.length<=i)];refine ⟨.inr 1,a0E ?_,rfl⟩;unfold a9w;exact cnT (by simp;omega) (bt (a0R h1) (cnT (by simp;omega) rfl))
 obtain ⟨x,e1,e2⟩:=key a.length 0 (by omega) (by omega);unfold M98;refine bt e1 ?_;simpa using e2
theorem b3M {a b:List Int} (ha:a.length<4294967296) (hb:b.length<4294967296):b8F Ar.std (a0q a) (a0q b)=some (decide (a=b)):=by
 unfold b8F;by_cases hl:a.length=b.length
 ·have e:=a7B (step:=a8k Ar.std (a0q a) (a0q b)) a.length (fun i => !decide (a[i]?=b[i]?)) (.inr ()) (.inl ()) (fun i hi=>by
   have h1:=zp1 hi;have h2:=zp1 (show i<b.length by omega);have hd:decide (a[i]=b[i])=decide (a[i]?=b[i]?):=by
    rw [h1,h2];simp
   unfold a8k;refine cnT (by simp;omega) (bt (a0R h1) (bt (a0R h2) ?_));simp only [a2u,a0i,a0k];rw [hd,a2Y _ (by omega) (by omega)];cases decide (a[i]?=b[i]?) <;> rfl) (by unfold a8k;exact cnF (by simp) rfl)
  refine cnT (by simp [hl]) (bt e ?_);cases hb':(List.range a.length).any fun i => !decide (a[i]?=b[i]?) with
  | true =>
    obtain ⟨i,_,h⟩:=List.any_eq_true.1 hb';have : ¬ a=b:=fun h'=>by subst h';simp at h
    rw [decide_eq_false this];rfl
  | false =>
    have:a=b:=by
     refine List.ext_getElem? fun i => ?_;rcases Nat.lt_or_ge i a.length with h | h
     ·have:=(List.any_eq_false.1 hb') i (List.mem_range.2 h);simpa using this
     rw [List.getElem?_eq_none h,List.getElem?_eq_none (by omega)]
    rw [decide_eq_true this];rfl
 refine cnF (by simp;omega) ?_;rw [decide_eq_false (fun h=>hl (by rw [h]))]
def GH (x:List Int):Prop:=x.length<4294967296
def SS (l:List (List Int)):Prop:=l.Pairwise ltL
section
variable {α:Type} [DecidableEq α]
def a2r (l:List α) (j:Nat):Bool:=decide (j=0) || !decide (l[j]?=l[j-1]?)
def ddN (l:List α):Nat->List α
 | 0=>[]
 | j+1=>ddN l j++(match l[j]? with | some x=>bif a2r l j then [x] else [] | none=>[])
theorem a3w {l:List α} {j:Nat} {x:α} (h:l[j]?=some x):ddN l (j+1)=bif a2r l j then ddN l j++[x] else ddN l j:=by
 show ddN l j++_=_;rw [h];cases a2r l j <;> simp
theorem b3N (l:List α) : ∀ j,(ddN l j).length<=j
 | 0=>Nat.le_refl _
 | j+1=>by
   have:=b3N l j;cases h:l[j]? with
   | none=>show (ddN l j++_).length<=_;rw [h];simp;omega
   | some x =>
     rw [a3w h];cases a2r l j with
     | true=>rw [cond_true,List.length_append];simp;omega
     | false=>rw [cond_false];omega
theorem b3O {l:List α} {q:Nat} (hq:q<=l.length) (h : ∀ j,1<=j->j<q->l[j]?≠l[j-1]?) : ∀ j,j<=q->ddN l j=l.take j
 | 0,_=>by simp [ddN]
 | j+1,hj=>by
   have hx:l[j]?=some l[j]:=zp1 (by omega);have hk:a2r l j=true:=by
    unfold a2r;by_cases h0:j=0
    ·rw [decide_eq_true h0];rfl
    rw [decide_eq_false h0,decide_eq_false (h j (by omega) (by omega))];rfl
   rw [a3w hx,hk,cond_true,b3O hq h j (by omega),a0n hx]
theorem a9V {l:List α} : ∀ j,j<=l.length -> ∀ x,x∈ddN l j↔x∈l.take j
 | 0,_,x=>by simp [ddN]
 | j+1,hj,x=>by
   have hx:l[j]?=some l[j]:=zp1 (by omega);have ih:=a9V (l:=l) j (by omega) x;rw [a3w hx,a0n hx,List.mem_append,List.mem_singleton];cases hk:a2r l j with
   | true=>rw [cond_true,List.mem_append,List.mem_singleton,ih]
   | false =>
     rw [cond_false,ih];refine ⟨.inl,fun h=>h.elim id fun h => ?_⟩;unfold a2r at hk;rw [Bool.or_eq_false_iff,decide_eq_false_iff_not] at hk;have he:l[j]?=l[j-1]?:=by simpa using hk.2
     rw [hx] at he;have hl:j-1<l.length:=by omega
     rw [zp1 hl] at he;rw [h,Option.some.inj he,List.mem_take_iff_getElem];refine ⟨j-1,?_,rfl⟩;omega
end
theorem b6w {l:List (List Int)} (hs:l.Pairwise fun x y => ¬ ltL y x) : ∀ j,j<=l.length->SS (ddN l j)
 | 0,_=>List.Pairwise.nil
 | j+1,hj=>by
   have hx:l[j]?=some l[j]:=zp1 (by omega);have ih:=b6w hs j (by omega);rw [a3w hx];cases hk:a2r l j with
   | false=>rw [cond_false];exact ih
   | true =>
     rw [cond_true];refine List.pairwise_append.2 ⟨ih,List.pairwise_singleton _ _,fun x hx' y hy => ?_⟩;rw [List.mem_singleton] at hy;subst hy;have hm:=(a9V (l:=l) j (by omega) x).1 hx';obtain ⟨i,hi,rfl⟩:=List.mem_take_iff_getElem.1 hm;have hij:i<j:=by omega
     have hp:=List.pairwise_iff_getElem.1 hs;have h1:=hp i j (by omega) (by omega) hij;by_cases hlt:ltL l[i] l[j]
     ·exact hlt
     exfalso;have he:=a4D hlt h1;unfold a2r at hk;rw [Bool.or_eq_true,decide_eq_true_eq] at hk;have hk:=hk.resolve_left (by omega);rw [Bool.not_eq_true',decide_eq_false_iff_not] at hk;apply hk;have hl:j-1<l.length:=by omega
     rw [hx,zp1 hl];congr 1;have h2:=hp (j-1) j hl (by omega) (by omega);by_cases hi1:i=j-1
     ·subst hi1;exact he.symm
     have h3:=hp i (j-1) (by omega) hl (by omega);rw [he] at h3;exact (a4D h3 h2).symm▸rfl
def GHs (n:Nat) (l:List (List Int)):Prop:=l.length=n /\ ∀ x∈l,GH x
theorem GHs.set {n:Nat} {l:List (List Int)} (h:GHs n l) (k:Nat) {x:List Int} (hx:GH x):GHs n (l.set k x) :=
 ⟨by rw [List.length_set];exact h.1,fun y hy=>(List.mem_or_eq_of_mem_set hy).elim (h.2 y) fun e=>e▸hx⟩
theorem a1U (l:List (List Int)):Ar.std.len (a0D l)=(l.length:Int):=by simp
theorem a5b {l:List (List Int)} {i:Nat} {x:List Int} (h:l[i]?=some x) {z:Nat} (hz:z=i):gc Ar.std (cL 1) (a0D l) z=some (a0q x):=by
 subst hz;unfold a0D;exact a8V (by rw [List.getElem?_map,h];rfl)
theorem b6x (l:List (List Int)) (k:Nat) (x:List Int) {z:Nat} (hz:z=k):Ar.std.lset (a0D l) z (.list 1 (a0q x))=a0D (l.set k x):=by
 subst hz;show (a0D l).set _ _=_;unfold a0D;rw [List.map_set,<-b7u];rfl
theorem b5x {n q:Nat} (hn:n<=5000000) (hq:1<=q) (hqn:q<n) {l:List (List Int)} (hl:GHs n l) (hdup:l[q]?=l[q-1]?) (hno : ∀ j,1<=j->j<q->l[j]?≠l[j-1]?) :
  ∃ (l':List (List Int)),q<=(ddN l n).length/\(ddN l n).length<n/\GHs n l'/\l'.take (ddN l n).length=ddN l n/\iter (a9x Ar.std 0 (n:Int) (q:Int)) ((q:Int),1,a0D l)=some (((ddN l n).length:Int),a0D l'):=by
 have hll:=hl.1;have h0:ddN l (q+1)=l.take q:=by
  have hx:l[q]?=some l[q]:=zp1 (by omega);have hk:a2r l q=false:=by
   unfold a2r;rw [decide_eq_false (by omega),decide_eq_true hdup];rfl
  rw [a3w hx,hk,cond_false];exact b3O (q:=q) (by omega) hno q (Nat.le_refl _)
 obtain ⟨⟨k,l'⟩,⟨h1,h2,h3,h4,h5,h6⟩,e⟩:=a0M (step:=a9x Ar.std 0 (n:Int) (q:Int)) (n-q-1) (fun (s:Nat×List (List Int)) (i:Nat)=>((s.1:Int),((i+1:Nat):Int),a0D s.2))
  (fun i s=>q<=s.1/\s.1<=q+i/\GHs n s.2/\s.1=(ddN l (q+i+1)).length/\s.2.take s.1=ddN l (q+i+1) /\ ∀ j,q+i<=j->s.2[j]?=l[j]?) (fun s=>((s.1:Int),a0D s.2))
  (fun i s hi ⟨g1,g2,g3,g4,g5,g6⟩=>by
   obtain ⟨k,m⟩:=s;simp only at g1 g2 g3 g4 g5 g6;have hm:=g3.1;have hx:l[q+i+1]?=some l[q+i+1]:=zp1 (by omega);have hy:l[q+i]?=some l[q+i]:=zp1 (by omega);have mx:m[q+i+1]?=some l[q+i+1]:=by rw [g6 _ (by omega),hx]
   have my:m[q+i]?=some l[q+i]:=by rw [g6 _ (by omega),hy]
   have gx:=hl.2 _ (List.mem_of_getElem? hx);have gy:=hl.2 _ (List.mem_of_getElem? hy);have hr:=b3M gx gy;have hk:a2r l (q+i+1) = !decide (l[q+i+1]=l[q+i]):=by
    unfold a2r;rw [decide_eq_false (by omega),Bool.false_or,show q+i+1-1=q+i by omega,hx,hy];congr 1;exact decide_eq_decide.2 ⟨fun h=>Option.some.inj h,fun h=>by rw [h]⟩
   have hdd:=a3w hx;rw [hk] at hdd;have hw:IntKind.i64.wrap (((i+1:Nat):Int)-1)=(i:Int):=by rw [a2Y _ (by omega) (by omega)];omega
   have c1 : ∀ a:Bool,a=true->ck a=some ():=fun a h=>by rw [h];rfl
   have e1:Ar.std.zlt (((i+1:Nat):Int)) (Ar.std.zsub (n:Int) (q:Int))=true:=by simp;omega
   have e0:Ar.std.zle 0 (((i+1:Nat):Int))=true:=by simp;omega
   cases hd:decide (l[q+i+1]=l[q+i]) with
   | true =>
     rw [hd] at hr hdd;refine ⟨(k,m),⟨g1,by simp only;omega,g3,?_,?_,fun j hj=>g6 j (by omega)⟩,?_⟩
     ·simp only;rw [show q+(i+1)+1=q+i+1+1 by omega,hdd];exact g4
     ·simp only;rw [show q+(i+1)+1=q+i+1+1 by omega,hdd];exact g5
     unfold a9x;refine cnT e1 (bt (c1 _ e0) (bt (c1 _ e1) (bt (a5b mx (by simp;omega)) (bt (v:=()) (c1 _ (by simp only [a0i,a0C,hw];simp)) (bt (v:=()) (c1 _ (by simp only [a0i,a0C,hw];simp;omega)) (bt (a5b my (by simp only [a0i,a0C,hw];simp;omega)) (bt hr (bt (v:=((k:Int),a0D m)) rfl ?_))))))));simp only [a0i,a0k,a1Y (i:=i+1) (n:=5000001) (by omega) (by decide)]
   | false =>
     rw [hd] at hr hdd;have htk:(m.set k l[q+i+1]).take (k+1)=ddN l (q+i+1)++[l[q+i+1]]:=by
      have:(m.set k l[q+i+1])[k]?=some l[q+i+1]:=List.getElem?_set_self (by omega);rw [a0n this,List.take_set_of_le (Nat.le_refl _),g5]
     refine ⟨(k+1,m.set k l[q+i+1]),⟨by simp only;omega,by simp only;omega,g3.set k gx,?_,?_,fun j hj => ?_⟩,?_⟩
     ·simp only;rw [show q+(i+1)+1=q+i+1+1 by omega,hdd,Bool.not_false,cond_true,List.length_append,<-g4];rfl
     ·simp only;rw [show q+(i+1)+1=q+i+1+1 by omega,hdd,Bool.not_false,cond_true];exact htk
     ·simp only;rw [List.getElem?_set_ne (by omega)];exact g6 j (by omega)
     unfold a9x;have hk' : ∃ d,Ar.std.lget (a0D m) (Ar.std.nat (Ar.std.zadd 0 (k:Int)))=some d:=by
      have:Ar.std.nat (Ar.std.zadd 0 (k:Int))=k:=by simp
      rw [this,b5r];exact ⟨_,zp1 (by unfold a0D;simp;omega)⟩
     obtain ⟨d,hd'⟩:=hk';refine cnT e1 (bt (c1 _ e0) (bt (c1 _ e1) (bt (a5b mx (by simp;omega)) (bt (v:=()) (c1 _ (by simp only [a0i,a0C,hw];simp)) (bt (v:=()) (c1 _ (by simp only [a0i,a0C,hw];simp;omega)) (bt (a5b my (by simp only [a0i,a0C,hw];simp;omega)) (bt hr (bt (v:=(((k+1:Nat):Int),a0D (m.set k l[q+i+1]))) ?_ ?_))))))))
     ·refine cnF rfl (bt (c1 _ e0) (bt (c1 _ e1) (bt (a5b mx (by simp;omega)) (bt (v:=()) (c1 _ (by simp)) (bt (v:=()) (c1 _ (by simp;omega)) (bt hd' ?_))))));rw [b6x m k _ (by simp)];simp only [a0i,a0k,a1Y (i:=k) (n:=5000001) (by omega) (by decide)]
     simp only [a0i,a0k,a1Y (i:=i+1) (n:=5000001) (by omega) (by decide)])
  (fun s _=>by unfold a9x;exact cnF (by simp;omega) rfl) (q,l) ⟨Nat.le_refl _,by simp,hl,by simp only;rw [Nat.add_zero,h0,List.length_take];omega,by simp only;rw [Nat.add_zero,h0],fun j _=>rfl⟩
 rw [show q+(n-q-1)+1=n by omega] at h4 h5;simp only at h1 h2 h4 h5;rw [<-h4];exact ⟨l',h1,by omega,h3,h5,e⟩
theorem c0e {n:Nat} (hn:n<=5000000) (h0:1<=n) {l:List (List Int)} (hl:GHs n l) :
  ∃ (l':List (List Int)),GHs n l'/\l'.take (ddN l n).length=ddN l n/\M99 Ar.std 0 (n:Int) (a0D l)=some (0,((ddN l n).length:Int),a0D l'):=by
 have hll:=hl.1;have hnone : ∀ i,i<=n->(∀ j,1<=j->j<i->l[j]?≠l[j-1]?)->ddN l i=l.take i:=fun i hi h=>b3O (q:=i) (by omega) h i (Nat.le_refl _);unfold M99;by_cases h2:n<2
 ·have e:=hnone n (Nat.le_refl _) (fun j h1 h2=>by omega);rw [List.take_of_length_le (by omega)] at e;rw [e];refine ⟨l,hl,List.take_length,?_⟩;rw [hll];exact cnT (by simp;omega) rfl
 have c1 : ∀ a:Bool,a=true->ck a=some ():=fun a h=>by rw [h];rfl
 rcases a2F (step:=b1h Ar.std 0 (n:Int) (a0D l)) (n-1) (fun (_:Unit) (i:Nat)=>((i+1:Nat):Int)) (fun i _ => ∀ j,1<=j->j<i+1->l[j]?≠l[j-1]?) (fun _ x => ∃ (l':List (List Int)),GHs n l'/\l'.take (ddN l n).length=ddN l n/\x = .inr (((ddN l n).length:Int),a0D l')) (fun _ => .inl ())
  (fun i s hi hno=>by
   have hx:l[i+1]?=some l[i+1]:=zp1 (by omega);have hy:l[i]?=some l[i]:=zp1 (by omega);have hr:=b3M (hl.2 _ (List.mem_of_getElem? hx)) (hl.2 _ (List.mem_of_getElem? hy));have hw:IntKind.i64.wrap (((i+1:Nat):Int)-1)=(i:Int):=by rw [a2Y _ (by omega) (by omega)];omega
   have e0:Ar.std.zle 0 (((i+1:Nat):Int))=true:=by simp;omega
   have e1:Ar.std.zlt (((i+1:Nat):Int)) (n:Int)=true:=by simp;omega
   cases hd:decide (l[i+1]=l[i]) with
   | false =>
     rw [hd] at hr;refine .inl ⟨(),fun j hj1 hj2 => ?_,?_⟩
     ·by_cases hji:j=i+1
      ·subst hji;rw [hx,show i+1-1=i by omega,hy];exact fun h=>(of_decide_eq_false hd) (Option.some.inj h)
      exact hno j hj1 (by omega)
     unfold b1h;refine cnT e1 (bt (c1 _ e0) (bt (c1 _ e1) (bt (a5b hx (by simp)) (bt (v:=()) (c1 _ (by simp only [a0i,a0C,hw];simp)) (bt (v:=()) (c1 _ (by simp only [a0i,a0C,hw];simp;omega)) (bt (a5b hy (by simp only [a0i,a0C,hw];simp)) (bt hr (cnF rfl ?_))))))));simp only [a0i,a0k,a1Y (i:=i+1) (n:=5000001) (by omega) (by decide)]
   | true =>
     rw [hd] at hr;obtain ⟨l',g1,g2,g3,g4,e⟩:=b5x hn (q:=i+1) (by omega) (by omega) hl (by rw [hx,show i+1-1=i by omega,hy,of_decide_eq_true hd]) hno;generalize hk:(ddN l n).length=k at g1 g2 g4 e;refine .inr ⟨.inr ((k:Int),a0D (l'.take k++List.replicate (n-k) [])),⟨_,⟨by have:=g3.1;simp;omega,fun h hh => ?_⟩,?_,rfl⟩,?_⟩
     ·rcases List.mem_append.1 hh with hh | hh
      ·exact g3.2 h (List.mem_of_mem_take hh)
      rw [(List.mem_replicate.1 hh).2];show ([]:List Int).length<4294967296;simp
     ·have hkl:(l'.take k).length=k:=by have:=g3.1;rw [List.length_take];omega
      rw [List.take_append_of_le_length (by omega),List.take_take,Nat.min_self];exact g4
     unfold b1h;have hlen':=a1U l';rw [g3.1] at hlen';refine cnT e1 (bt (c1 _ e0) (bt (c1 _ e1) (bt (a5b hx (by simp)) (bt (v:=()) (c1 _ (by simp only [a0i,a0C,hw];simp)) (bt (v:=()) (c1 _ (by simp only [a0i,a0C,hw];simp;omega)) (bt (a5b hy (by simp only [a0i,a0C,hw];simp)) (bt hr (cnT rfl ?_))))))));refine bt (c1 _ e0) (bt (v:=()) (c1 _ (by simp;omega)) (bt (v:=()) (c1 _ (by simp)) (bt e ?_)));dsimp only;refine bt (v:=()) (c1 _ (by simp)) (bt (v:=()) (c1 _ (by simp;omega)) (bt (v:=()) (c1 _ (by simp)) (bt (v:=()) (c1 _ (by rw [hlen'];simp;omega)) (bt (v:=()) (c1 _ (by simp)) (bt (v:=()) (c1 _ (by simp)) (bt (v:=()) (c1 _ (by simp;omega)) ?_))))));have hf:Ar.std.fill (a0D l') (Ar.std.zadd 0 (k:Int)) (Ar.std.zsub (n:Int) (k:Int)) (.list 1 [])=a0D (l'.take k++List.replicate (n-k) []):=by
      have hl':=g3.1;have a1:Ar.std.zadd 0 (k:Int)=(k:Int):=by simp
      have a2:Ar.std.zsub (n:Int) (k:Int)=((n-k:Nat):Int):=by simp;omega
      rw [a1,a2,a7x];unfold a1b a0D;rw [Int.toNat_natCast,Int.toNat_natCast,List.drop_eq_nil_of_le (by simp;omega),List.append_nil,List.map_append,b1K,List.map_take,List.map_replicate];congr 1
      ·unfold enc;rw [List.map_take]
      unfold enc;rw [List.map_replicate];rfl
     rw [hf];simp)
  (fun s _=>by
   unfold b1h;exact cnF (by simp;omega) rfl) () (fun j h1 h2=>by omega) with ⟨_,hno,e⟩ | ⟨_,x,_,⟨l',g1,g2,rfl⟩,e⟩
 ·have e':=hnone n (Nat.le_refl _) (fun j h1 h2=>hno j h1 (by omega));rw [List.take_of_length_le (by omega)] at e';rw [e'];refine ⟨l,hl,List.take_length,?_⟩;rw [hll];exact cnF (by simp;omega) (bt e rfl)
 exact ⟨l',g1,g2,cnF (by simp;omega) (bt e (by simp))⟩
theorem b0M {l:List (List Int)} (h:SS l):l.Nodup:=h.imp fun {a b} hab e=>by subst e;exact a2S a hab
theorem a9e {l l':List (List Int)} (h:SS l) (h':SS l') (hm : ∀ x,x∈l↔x∈l'):l=l':=by
 have hp:=(List.perm_ext_iff_of_nodup (b0M h) (b0M h')).2 hm;exact hp.eq_of_pairwise (le:=ltL) (fun a b _ _ h1 h2=>absurd (a3D h1 h2) (a2S a)) h h'
theorem a3M {a b:List Int} (ha:GH a) (hb:GH b):ltF (fun a0 b0=>M98 Ar.std a0 b0) (a0q a) (a0q b)=decide (cmpL a b<0):=by
 unfold ltF;simp only [b0L ha hb]
theorem c0f {hs:List (List Int)} (hg : ∀ h∈hs,GH h):CmpOk (fun a0 b0=>M98 Ar.std a0 b0) (hs.map a0q):=by
 have hm : ∀ {p:List D->Prop},(∀ a,a∈hs->p (a0q a)) -> ∀ x∈hs.map a0q,p x:=by
  intro p h x hx;obtain ⟨a,ha,rfl⟩:=List.mem_map.1 hx;exact h a ha
 refine ⟨hm fun a ha=>hm fun b hb=>⟨_,b0L (hg a ha) (hg b hb)⟩,hm fun a ha => ?_,hm fun a ha=>hm fun b hb=>hm fun c hc => ?_,hm fun a ha=>hm fun b hb => ?_⟩
 ·rw [a3M (hg a ha) (hg a ha)];exact decide_eq_false (a2S a)
 ·rw [a3M (hg a ha) (hg b hb),a3M (hg b hb) (hg c hc),a3M (hg a ha) (hg c hc)];simp only [decide_eq_true_eq];exact fun h1 h2=>a3D h1 h2
 rw [a3M (hg a ha) (hg b hb),a3M (hg b hb) (hg a ha)];simp only [decide_eq_false_iff_not];intro h1 h2;rw [a4D h1 h2]
theorem a9f (hs:List (List Int)) (h1:1<=hs.length) (h2:hs.length<=5000000) (hg : ∀ h∈hs,GH h) :
  ∃ ss:List (List Int),SS ss/\(∀ x,x∈ss↔x∈hs)/\ss.length<=hs.length /\
    ∃ (r20:List D) (l':List (List Int)),M97 Ar.std 0 (Ar.std.len (a0D hs)) (a0D hs)=some r20/\M99 Ar.std 0 (Ar.std.len (a0D hs)) r20=some (0,(ss.length:Int),a0D l')/\l'.take ss.length=ss/\ss.length<=l'.length /\ ∀ x∈l',GH x:=by
 have hlen:=a1U hs;have hcmp:=c0f hg;obtain ⟨s0,hs0⟩ : ∃ s0,s0=hs.mergeSort fun a b => !decide (cmpL b a<0):=⟨_,rfl⟩;have e0:s0.map a0q=(hs.map a0q).mergeSort fun x y => !ltF (fun a0 b0=>M98 Ar.std a0 b0) y x:=by
  rw [hs0];exact List.map_mergeSort fun a ha b hb=>by rw [a3M (hg b hb) (hg a ha)]
 have hmem0 : ∀ x,x∈s0↔x∈hs:=fun x=>by rw [hs0,List.mem_mergeSort]
 have g0 : ∀ x∈s0,GH x:=fun x hx=>hg x ((hmem0 x).1 hx);have hl0:s0.length=hs.length:=by
  have:=congrArg List.length e0;rw [List.length_map,List.length_mergeSort,List.length_map] at this;exact this
 have e94:M97 Ar.std 0 (Ar.std.len (a0D hs)) (a0D hs)=some (a0D s0):=by
  unfold M97;rw [hlen];have:=b9B (c:=cL 1) (f:=fun a0 b0=>M98 Ar.std a0 b0) (n:=(hs.length:Int)) (xs:=hs.map a0q) (by rw [List.length_map]) (by omega) hcmp;rw [<-e0] at this;exact this
 have hsort:s0.Pairwise fun x y => ¬ ltL y x:=by
  have hp:=List.pairwise_mergeSort (le:=fun a b:List Int => !decide (cmpL b a<0)) (fun a b c h1 h2=>by
   simp only [Bool.not_eq_true',decide_eq_false_iff_not] at h1 h2 ⊢;intro h;by_cases hab:ltL a b
   ·exact h2 (a3D (a:=c) (b:=a) (c:=b) h hab)
   ·rw [a4D hab h1] at h;exact h2 h) (fun a b=>by
   simp only [Bool.or_eq_true,Bool.not_eq_true',decide_eq_false_iff_not];by_cases hab:ltL b a
   ·right;intro h;exact a2S _ (a3D hab h)
   exact .inl hab) hs
  rw [<-hs0] at hp;exact hp.imp fun {x y} h=>by
   simp only [Bool.not_eq_true',decide_eq_false_iff_not] at h;exact h
 obtain ⟨l',k3,k4,e98⟩:=c0e h2 h1 (l:=s0) ⟨hl0,g0⟩;have hll:=k3.1;have hdl:=b3N s0 hs.length;refine ⟨ddN s0 hs.length,b6w hsort _ (by omega),fun x => ?_,hdl,_,l',e94,by rw [hlen];exact e98,k4,by omega,k3.2⟩;rw [a9V (l:=s0) _ (by omega),List.take_of_length_le (by omega),hmem0]
theorem a9W (l:List (List Int)) {n:Nat} (h:n<=l.length):fz Ar.std (a0D l) 0 (n:Int)=some (a0D (l.take n)):=by
 unfold fz;have hz:Ar.std.zle (Ar.std.zadd 0 (n:Int)) (Ar.std.len (a0D l))=true:=by rw [a1U];simp;omega
 rw [hz,cond_true];simp only [a0k,a7w,Int.zero_add,Int.toNat_zero,List.drop_zero,Nat.sub_zero,Int.toNat_natCast];unfold a0D enc;rw [<-List.map_take,<-List.map_take]
def a4E (P:Pg) (s:Sta):List Int:=((List.range (sumLd P)).map fun n=>s (3+n))++[s 11,s 12,s 13]
theorem c0g (s:Sta) {p n:Nat} {a b:Int} (ha:a=p) (hb:b=((p+n:Nat):Int)) (h0:3<=p) (h1:p+n<=38):Ar.std.sub (eS s) a b=enc (cI .i8) ((List.range n).map fun j=>s (p+j)):=by
 subst ha hb;show ((eS s).drop ((p:Int)).toNat).take (((p+n:Nat):Int).toNat-((p:Int)).toNat)=_;rw [Int.toNat_natCast,Int.toNat_natCast,Nat.add_sub_cancel_left];apply List.ext_getElem?;intro i;by_cases hi:i<n
 ·rw [List.getElem?_take_of_lt hi,List.getElem?_drop,a2k s (by omega),a7y,List.getElem?_map,List.getElem?_range hi,kdi (by omega) (by omega)];rfl
 rw [List.getElem?_eq_none (by simp;omega),List.getElem?_eq_none (by simp;omega)]
theorem b5y (s:Sta) (b:Nat) (l:List Ac) (r:Nat->Int) (hr : ∀ i,i<l.length->(aAt l i).1=1->r i=s (3+(b+nLd (l.take i)))):reads l r=(List.range (nLd l)).map fun n=>s (3+(b+n)):=by
 unfold reads;have key : ∀ m,m<=l.length->((List.range m).filterMap fun i=>if (aAt l i).1=1 then some (r i) else none)=(List.range (nLd (l.take m))).map fun n=>s (3+(b+n)):=by
  intro m
  induction m with
  | zero=>intro _;simp [nLd]
  | succ m ih =>
    intro hm;have hml:m<l.length:=by omega
    rw [List.range_succ,List.filterMap_append,ih (by omega),a1O hml];by_cases h:(aAt l m).1=1
    ·rw [if_pos h,List.range_succ,List.map_append];simp [h,hr m hml h]
    rw [if_neg h];simp [h]
 have:=key l.length (Nat.le_refl _)
 rwa [List.take_length] at this
theorem a7M {P:Pg} (s:Sta):a8c P (vw P s)=a4E P s:=by
 unfold a8c a4E;congr 1;have key : ∀ m,m<=P.length->((List.range m).flatMap fun t=>reads (thr P t) ((vw P s).rd t))=(List.range (sumLd (P.take m))).map fun n=>s (3+n):=by
  intro m
  induction m with
  | zero=>intro _;simp [sumLd]
  | succ m ih =>
    intro hm;rw [List.range_succ,List.flatMap_append,ih (by omega),a3u (by omega)];have e:=b5y s (sumLd (P.take m)) (thr P m) ((vw P s).rd m) (fun i hi hl=>by
     show (if (aAt (thr P m) i).1=1 then s (3+num P m i) else 0)=_
     rw [if_pos hl];rfl)
    simp only [List.flatMap_cons,List.flatMap_nil,List.append_nil];rw [e];apply List.ext_getElem?;intro i;by_cases h1:i<sumLd (P.take m)
    ·rw [zp7 (by simp;exact h1)];rw [List.getElem?_map,List.getElem?_map,List.getElem?_range h1,List.getElem?_range (by omega)]
    rw [zp8 (by simp;omega)];simp only [List.length_map,List.length_range];by_cases h2:i<sumLd (P.take m)+nLd (thr P m)
    ·rw [List.getElem?_map,List.getElem?_map,List.getElem?_range (by omega),List.getElem?_range h2];simp only [Option.map_some];congr 2;omega
    rw [List.getElem?_eq_none (by simp;omega),List.getElem?_eq_none (by simp;omega)]
 have:=key P.length (Nat.le_refl _)
 rwa [List.take_length] at this
section
variable {P:Pg} (hv:VP P) {s:Sta} (hs:Wf P s)
include hv hs
theorem a6U:sumLd P<=8:=Nat.le_trans (a2b P) hv.w8
theorem a5U : ∀ x∈a4E P s,0<=x/\x<=3:=by
 intro x hx;have h8:=a6U hv hs;unfold a4E at hx;rcases List.mem_append.1 hx with hx | hx
 ·obtain ⟨n,hn,rfl⟩:=List.mem_map.1 hx;have:=List.mem_range.1 hn;exact hs.r n (by omega)
 simp at hx;rcases hx with rfl | rfl | rfl
 ·exact hs.c 0 (by omega)
 ·exact hs.c 1 (by omega)
 exact hs.c 2 (by omega)
theorem c0h:M78 Ar.std (eS s) (eP P)=some (a0q (a4E P s)):=by
 have h8:=a6U hv hs;unfold M78;refine bck (by rw [a5j];rfl) ?_;have key:=a4a (step:=b2g Ar.std (eP P)) P (fun l=>(sumLd l:Int)) (fun z i=>(z,(i:Int))) id (fun i a ha hi=>by
  have e:a=thr P i:=by rw [a0w hi] at ha;exact (Option.some.inj ha).symm
  subst e;unfold b2g;refine cnT (by simp [hi]) (bt (a1G ha) ?_);have hl:=hv.l7 i;refine bt (a9O (by omega)) ?_;have h3:=a3t (thr P i);have h4:=hv.w4 i;have h5:=a3v P (show i<=P.length by omega);rw [List.take_length] at h5;have hn3:=hv.n3;simp only [a0i,a0k];rw [a2Y _ (by omega) (by omega),a2Y _ (by omega) (by omega)];unfold sumLd;simp) (by
  unfold b2g;exact cnF (by simp) rfl)
 rw [show ((0:Int),(0:Int))=(((sumLd []:Nat):Int),((0:Nat):Int)) from by simp [sumLd]];refine bt key ?_;simp only [id];refine bc (bc (bc (bc ?_)));have e1:b8P Ar.std (Ar.std.zadd (Ar.std.zadd 0 (Int.ofNat 3)) 0) (Ar.std.zsub (sumLd P:Int) 0) (eS s)=some (enc (cI .i8) ((List.range (sumLd P)).map fun j=>s (3+j))):=by
  unfold b8P;rw [a5j,c0g s (p:=3) (n:=sumLd P) (by simp) (by simp) (by omega) (by omega)];exact bck (by simp;omega) (bt (a7A (by simp;omega)) rfl)
 refine bt e1 (bc (bc (bc (bc ?_))));rw [a5j,c0g s (p:=11) (n:=3) (by simp) (by simp) (by omega) (by omega)];refine bc (bt (b3s (by simp;omega)) ?_);have hO:((List.range (sumLd P)).map fun j=>s (3+j))++((List.range 3).map fun j=>s (11+j))=a4E P s:=rfl;rw [hO];have hvals:=a5U hv hs;have hlen:(a4E P s).length<=11:=by unfold a4E;simp;omega
 have key2:=a4a (step:=b2h Ar.std (enc (cI .i8) (a4E P s))) (a4E P s) (fun l=>a0q l) (fun z i=>(z,(i:Int))) id (fun i a ha hi=>by
  have hm:=hvals a (List.mem_of_getElem? ha);unfold b2h;refine cnT (by simp [hi]) (bt (a0R ha) ?_);have ew:Ar.std.wrp .i64 a=a:=by simp only [a0i];exact a2Y _ (by omega) (by omega)
  rw [ew];refine bt (a5N (c:=cI .i64) (a:=a) rfl (by simp;omega)) ?_;simp only [a0i,a0k];rw [a2Y _ (by omega) (by omega)];rfl) (by
  unfold b2h;exact cnF (by simp) rfl)
 exact bt key2 rfl
end
theorem b3P {k:Nat} {P:Pg} (hv:VP P) {s u:Sta} (hs:WfK k P s) (hu:WfK k P u) (fs:a3L P s=true) (fu:a3L P u=true) (h:a4E P s=a4E P u):s=u:=by
 have h8:=a6U hv hs.wf;have hz : ∀ {s:Sta},WfK k P s->a3L P s=true -> ∀ i,(i<3->s i=if i<P.length then ((2 ^ (thr P i).length-1:Nat):Int) else 0)/\(11+3<=i->s i=0):=by
  intro s hs fs i;unfold a3L at fs;rw [List.all_eq_true] at fs;have hw0 : ∀ t,t<3->s (38+t)=0:=by
   intro t ht;obtain ⟨w0,w1⟩:=hs.wf.w t ht;rcases Nat.lt_or_ge t P.length with h | h
   ·have:=fs t (List.mem_range.2 h);simp only [zp4,Bool.not_eq_true',decide_eq_false_iff_not] at this;omega
   rw [a1Z h] at w1;have:stD [] (s t)=0:=rfl;rw [this] at w1;omega
  refine ⟨fun hi => ?_,fun hi => ?_⟩
  ·split
   ·rename_i h;have:=fs i (List.mem_range.2 h);simp only [zp4,decide_eq_true_eq] at this;exact this.1
   rename_i h;obtain ⟨d0,d1⟩:=hs.wf.d i hi;rw [a1Z (by omega)] at d1;simp at d1;omega
  by_cases h1:i<38
  ·have hb:=hs.bz ((i-14) / 8) (((i-14)%8) / 2) (by omega) (by omega) (by rw [hw0 _ (by omega)];omega);rcases Nat.mod_two_eq_zero_or_one (i-14) with h2 | h2
   ·have e:14+8*((i-14) / 8)+2*(((i-14)%8) / 2)=i:=by omega
    rw [e] at hb;exact hb.1
   have e:14+8*((i-14) / 8)+2*(((i-14)%8) / 2)+1=i:=by omega
   rw [e] at hb;exact hb.2
  by_cases h2:i<41
  ·have e:i=38+(i-38):=by omega
   rw [e];exact hw0 _ (by omega)
  exact hs.wf.z i (by omega)
 have hcells : ∀ n,n<sumLd P+3->(a4E P s)[n]?=(a4E P u)[n]?:=fun n _=>by rw [h]
 have hget : ∀ (s:Sta) n,n<sumLd P->(a4E P s)[n]?=some (s (3+n)):=by
  intro s n hn;unfold a4E;rw [zp7 (by simp;exact hn),List.getElem?_map,List.getElem?_range hn];rfl
 have hget2 : ∀ (s:Sta) n,n<3->(a4E P s)[sumLd P+n]?=some (s (11+n)):=by
  intro s n hn;unfold a4E;rw [zp8 (by simp)];simp only [List.length_map,List.length_range,Nat.add_sub_cancel_left];rcases (show n=0\/n=1\/n=2 by omega) with rfl | rfl | rfl <;> rfl
 funext i;by_cases h1:i<3
 ·rw [(hz hs fs i).1 h1,(hz hu fu i).1 h1]
 by_cases h2:i<11
 ·by_cases h3:i-3<sumLd P
  ·have:=hcells (i-3) (by omega);rw [hget s _ h3,hget u _ h3,show 3+(i-3)=i by omega] at this;exact Option.some.inj this
  have e1:=hs.rz (i-3) (by omega) (by omega);have e2:=hu.rz (i-3) (by omega) (by omega);rw [show 3+(i-3)=i by omega] at e1 e2;rw [e1,e2]
 by_cases h3:i<14
 ·have:=hcells (sumLd P+(i-11)) (by omega);rw [hget2 s _ (by omega),hget2 u _ (by omega),show 11+(i-11)=i by omega] at this;exact Option.some.inj this
 rw [(hz hs fs i).2 (by omega),(hz hu fu i).2 (by omega)]
def b7T:Nat->List (List Int)
 | 0=>[[]]
 | n+1=>[0,1,2,3].flatMap fun a:Int=>(b7T n).map (a :: ·)
theorem b0N : ∀ n,(b7T n).length=4 ^ n
 | 0=>rfl
 | n+1=>by
   unfold b7T;simp only [List.flatMap_cons,List.flatMap_nil,List.length_append,List.length_map,b0N n,List.length_nil];rw [Nat.pow_succ];omega
theorem b0O : ∀ {l:List Int},(∀ x∈l,0<=x/\x<=3)->l∈b7T l.length
 | [],_=>by simp [b7T]
 | a::l,h=>by
   have ha:=h a (by simp);have ih:=b0O (l:=l) (fun x hx=>h x (by simp [hx]));rw [List.length_cons];unfold b7T;refine List.mem_flatMap.2 ⟨a,?_,List.mem_map.2 ⟨l,ih,rfl⟩⟩;simp;omega
def PB (P:Pg) (Q:List Sta):Prop := ∃ Ls:List (List Sta),Q=Ls.flatten/\(∀ l∈Ls,l.length<=21)/\Ls.length<=44 /\ ∀ j l,Ls[j]?=some l -> ∀ s∈l,mu P s+j<=42
theorem PB.len {P:Pg} {Q:List Sta} (h:PB P Q):Q.length<=924:=by
 obtain ⟨Ls,rfl,h1,h2,_⟩:=h;have : ∀ (L:List (List Sta)),(∀ l∈L,l.length<=21)->L.flatten.length<=21*L.length:=by
  intro L
  induction L with
  | nil=>intro _;simp
  | cons l L ih =>
    intro h;have h1:=h l (by simp);have h2:=ih (fun l hl=>h l (by simp [hl]));simp only [List.flatten_cons,List.length_append,List.length_cons];omega
 have:=this Ls h1;omega
theorem a4T {α:Type} : ∀ (Ls:List (List α)) {Q:List α} {s:α},Ls.flatten=Q++[s] -> ∃ A l E,Ls=A++(l++[s])::E/\Q=A.flatten++l
 | [],Q,s,h=>by simp at h
 | x::Ls,Q,s,h=>by
   rw [List.flatten_cons] at h;by_cases hE:Ls.flatten=[]
   ·rw [hE,List.append_nil] at h;exact ⟨[],Q,Ls,by rw [h];rfl,by simp⟩
   have hne:Ls.flatten≠[]:=hE;obtain ⟨y,z,hy⟩ : ∃ y z,Ls.flatten=y++[z]:=by
    rcases List.eq_nil_or_concat Ls.flatten with h' | ⟨y,z,h'⟩
    ·exact absurd h' hne
    exact ⟨y,z,by rw [h',List.concat_eq_append]⟩
   rw [hy,<-List.append_assoc] at h;have h1:=List.append_inj' h rfl;obtain ⟨rfl,h2⟩:=h1;simp at h2;subst h2;obtain ⟨A,l,E,e1,e2⟩:=a4T Ls hy;exact ⟨x::A,l,E,by rw [e1];rfl,by rw [e2];simp⟩
theorem PB.next {P:Pg} {Q:List Sta} {s:Sta} (h:PB P (Q++[s])) {new:List Sta} (hn:new.length<=21) (hm : ∀ u∈new,mu P u<mu P s):PB P (Q++new):=by
 obtain ⟨Ls,e,h1,h2,h3⟩:=h;obtain ⟨A,l,E,rfl,rfl⟩:=a4T Ls e.symm;have hs:mu P s+A.length<=42:=h3 A.length (l++[s]) (by rw [zp8 (Nat.le_refl _)];simp) s (by simp);refine ⟨A++[l,new],by simp,fun x hx => ?_,by simp;omega,fun j x hj u hu => ?_⟩
 ·simp at hx;rcases hx with hx | rfl | rfl
  ·exact h1 x (by simp [hx])
  ·have:=h1 (x++[s]) (by simp);simp at this;omega
  exact hn
 by_cases hjA:j<A.length
 ·rw [zp7 hjA] at hj;exact h3 j x (by rw [zp7 hjA];exact hj) u hu
 rw [zp8 (by omega)] at hj;rcases (show j=A.length\/j=A.length+1\/A.length+2<=j by omega) with rfl | rfl | hj2
 ·simp at hj;subst hj;exact h3 A.length (l++[s]) (by rw [zp8 (Nat.le_refl _)];simp) u (by simp [hu])
 ·rw [show A.length+1-A.length=1 by omega] at hj;simp at hj;subst hj;have:=hm u hu;omega
 rw [List.getElem?_eq_none (by simp;omega)] at hj;cases hj
noncomputable def lev (k:Nat) (P:Pg):Nat->List Sta
 | 0=>[s0]
 | n+1=>(lev k P n).flatMap (scs k P)
noncomputable def b6y (k:Nat) (P:Pg):List Sta:=(List.range 44).flatMap (lev k P)
section
variable {k:Nat} (hK:Kind k) {P:Pg} (hv:VP P)
include hK hv
theorem b6z : ∀ n,∀ s∈lev k P n,WfK k P s/\mu P s+n<=42
 | 0,s,hs=>by
   unfold lev at hs;rw [List.mem_singleton.1 hs];exact ⟨WfK.init k P,by have:=b3L hv;omega⟩
 | n+1,s,hs=>by
   unfold lev at hs;obtain ⟨u,hu,hs⟩:=List.mem_flatMap.1 hs;obtain ⟨h1,h2⟩:=b6z n u hu;have h3:=(a3l hK hv h1).1 hs;have h4:=a9u.mu hK hv h1 h3;exact ⟨a9u.wf hK hv h1 h3,by omega⟩
theorem b3Q:s0∈b6y k P:=List.mem_flatMap.2 ⟨0,by simp,by simp [lev]⟩
theorem b3R : ∀ s∈b6y k P,∀ n∈scs k P s,n∈b6y k P:=by
 intro s hs n hn;obtain ⟨i,hi,hs⟩:=List.mem_flatMap.1 hs;have hi:=List.mem_range.1 hi;obtain ⟨h1,h2⟩:=b6z hK hv i s hs;exact List.mem_flatMap.2 ⟨i+1,List.mem_range.2 (by omega),by unfold lev;exact List.mem_flatMap.2 ⟨s,hs,hn⟩⟩
noncomputable def outs (P:Pg) (d:List Sta):List (List Int):=(d.filter (a3L P)).map (a4E P)
theorem b0P {d:List Sta} (hd:d.Nodup) (hr : ∀ s∈d,Reach (scs k P) s0 s):(outs P d).length<=4194304:=by
 have hw : ∀ s∈d,WfK k P s:=fun s hs=>(a1t hK hv (hr s hs)).1;have h8:=a6U hv (Wf.init P);have hn:(outs P d).Nodup:=by
  unfold outs;refine List.pairwise_map.2 ?_;refine (hd.filter _).imp_of_mem ?_;intro a b ha hb hne e;rw [List.mem_filter] at ha hb;exact hne (b3P hv (hw a ha.1) (hw b hb.1) ha.2 hb.2 e)
 have:=a5h (l:=outs P d) (m:=b7T (sumLd P+3)) hn (fun x hx=>by
  obtain ⟨s,hs,rfl⟩:=List.mem_map.1 hx;have hs:=(List.mem_filter.1 hs).1;have e:(a4E P s).length=sumLd P+3:=by unfold a4E;simp
  rw [<-e];exact b0O (a5U hv (hw s hs).wf))
 rw [b0N] at this;have h2:4 ^ (sumLd P+3)<=4 ^ 11:=Nat.pow_le_pow_right (by omega) (by omega);have h3:4 ^ 11=4194304:=rfl;omega
theorem c0i {Q:List Sta} {s:Sta}:gc Ar.std cA (eQ (Q++[s])) Q.length=some (eS s):=by
 unfold gc;show ((eQ (Q++[s]))[Q.length]?).bind _=_;unfold eQ;rw [List.getElem?_map,zp8 (Nat.le_refl _)];simp [cA]
theorem b1R {seen Q done:List Sta} {s:Sta} (hI:Known (scs k P) s0 (b6y k P) seen (Q++[s]) done) (hB:PB P (Q++[s])) :
  ∃ seen' Q',Known (scs k P) s0 (b6y k P) seen' Q' (done++[s])/\PB P Q' /\
    a8l Ar.std (eP P) (Int.ofNat (142+k)) (eM seen,eQ (Q++[s]),a0D (outs P done))=some (.inl (eM seen',eQ Q',a0D (outs P (done++[s])))):=by
 have hsr:s∈seen:=hI.perm.mem_iff.2 (by simp);have hr:=hI.reach s hsr;obtain ⟨hw,_⟩:=a1t hK hv hr;have hwf:=c0c hv hw.wf k;obtain ⟨seen',Q',hp,hk',hlen⟩:=Known.next (succ:=scs k P) hI (b3R hK hv);have hnew:=a5i (scs k P s) seen Q hI.nodup;obtain ⟨new,hn1,hn2,hn3,hn4⟩:=hnew;rw [hn1] at hp;simp only [Prod.mk.injEq] at hp;obtain ⟨rfl,rfl⟩:=hp;have hZ:ZL seen:=fun u hu=>(a1t hK hv (hI.reach u hu)).1.wf.z;have hQl:=hB.len;rw [List.length_append,List.length_singleton] at hQl;have hnl:new.length<=21:=by
  have:=b0I (seen,Q) (scs k P s);unfold pu at this;rw [hn1] at this;have h2:=hwf.2;simp only [List.length_append] at this;omega
 have hB':PB P (Q++new):=hB.next hnl (fun u hu=>a9u.mu hK hv hw ((a3l hK hv hw).1 (hn3 u hu)));refine ⟨_,_,hk',hB',?_⟩;have hdn:done.Nodup /\ ∀ u∈done,Reach (scs k P) s0 u:=by
  have:=hI.perm.nodup_iff.1 hI.nodup;exact ⟨(List.nodup_append.1 this).1,fun u hu=>hI.reach u (hI.perm.mem_iff.2 (by simp [hu]))⟩
 have hol:=b0P hK hv hdn.1 hdn.2;have hQlen:Ar.std.len (eQ (Q++[s]))=((Q.length+1:Nat):Int):=by
  show ((eQ (Q++[s])).length:Int)=_;unfold eQ;simp
 have e1:Ar.std.wrp .i64 (Ar.std.zsub ((Q.length+1:Nat):Int) 1)=(Q.length:Int):=by
  simp only [a0i,a0C];rw [a2Y _ (by omega) (by omega)];omega
 have e2:Ar.std.sub (eQ (Q++[s])) 0 (Q.length:Int)=eQ Q:=by
  show ((eQ (Q++[s])).drop (0:Int).toNat).take _=_;unfold eQ;simp
 have e3:Ar.std.spl Z41 (Ar.std.zadd 0 (Int.ofNat 0)) (eS s)=eS s:=b5v _ _ a7E rfl;unfold a8l;dsimp only;rw [hQlen,e1,e2];refine cnT (by first | (simp;done) | (simp;omega)) (bc (bc ?_))
 have e4:Ar.std.nat (Q.length:Int)=Q.length:=rfl;rw [e4];refine bt (c0i hK hv) (bck (by rw [a5j];try rfl) (bc (bc (bc ?_))))
 rw [e3];refine bt (gaS s rfl) (bt (b9S hv hw.wf) ?_);refine bt (v:=a0D (outs P (done++[s]))) ?_ ?_
 ·unfold outs;rw [List.filter_append,List.map_append];cases ho:a3L P s with
  | true =>
    have ef:List.filter (a3L P) [s]=[s]:=by simp [ho]
    rw [ef];simp only [cond_true];refine bt (c0h hv hw.wf) ?_;have:=a5N (c:=cL 1) (l:=(outs P done).map (enc (cI .i64))) (a:=a0q (a4E P s)) (d := .list 1 (a0q (a4E P s))) rfl (by rw [List.length_map];omega);refine bt this ?_;unfold a0D outs;simp
  | false =>
    have ef:List.filter (a3L P) [s]=[]:=by simp [ho]
    rw [ef];simp
 refine bt (v:=(eM (pu (seen,Q) (scs k P s)).1,eQ (pu (seen,Q) (scs k P s)).2)) ?_ ?_
 ·rcases hK with rfl | rfl | rfl
  ·refine cnT rfl (bt (b7M hv hw.wf (x:=(seen,Q)) hZ (by simp only;omega)) rfl)
  ·refine cnF rfl (cnT rfl (bt (b7N hv hw.wf (x:=(seen,Q)) hZ (by simp only;omega)) rfl))
  refine cnF rfl (cnF rfl (cnT rfl (bt (b7O hv hw.wf (x:=(seen,Q)) hZ (by simp only;omega)) rfl)))
 unfold pu;rw [hn1]
theorem b3S {seen done:List Sta}:a8l Ar.std (eP P) (Int.ofNat (142+k)) (eM seen,eQ [],a0D (outs P done))=some (.inr (a0D (outs P done))):=by
 unfold a8l;exact cnF (by simp [eQ]) rfl
theorem b3T : ∃ done:List Sta,(∀ s,s∈done↔Reach (scs k P) s0 s)/\done.Nodup/\iter (a8l Ar.std (eP P) (Int.ofNat (142+k))) (eM [s0],eQ [s0],[])=some (a0D (outs P done)):=by
 have key : ∀ n seen Q done,(b6y k P).length-done.length<n->Known (scs k P) s0 (b6y k P) seen Q done->PB P Q ->
   ∃ done':List Sta,(∀ s,s∈done'↔Reach (scs k P) s0 s)/\done'.Nodup/\iter (a8l Ar.std (eP P) (Int.ofNat (142+k))) (eM seen,eQ Q,a0D (outs P done))=some (a0D (outs P done')):=by
  intro n
  induction n with
  | zero=>intro _ _ _ h;omega
  | succ n ih =>
    intro seen Q done hn hI hB;rcases List.eq_nil_or_concat Q with rfl | ⟨Q,s,rfl⟩
    ·refine ⟨done,Known.end (succ:=scs k P) hI,?_,a0E (b3S hK hv)⟩;have:=hI.perm.nodup_iff.1 hI.nodup;exact (List.nodup_append.1 this).1
    rw [List.concat_eq_append] at hI hB ⊢;obtain ⟨seen',Q',h1,h2,h3⟩:=b1R hK hv hI hB;rw [a1d h3];have hl:=h1.len;rw [List.length_append,List.length_singleton] at hl;exact ih seen' Q' (done++[s]) (by rw [List.length_append,List.length_singleton];omega) h1 h2
 have h0:Known (scs k P) s0 (b6y k P) [s0] [s0] []:=Known.start _ (b3Q hK hv);have hB:PB P [s0]:=⟨[[s0]],by simp,fun l hl=>by simp at hl;subst hl;simp,by simp,fun j l hj s hs=>by
  rcases Nat.eq_zero_or_pos j with rfl | hj0
  ·simp at hj;subst hj;simp at hs;subst hs;have:=b3L hv;omega
  rw [List.getElem?_eq_none (by simp;omega)] at hj;cases hj⟩
 exact key _ [s0] [s0] [] (Nat.lt_succ_self _) h0 hB
theorem a9g : ∃ O:List (List Int),SS O/\(∀ o,o∈O↔Can k P o)/\O.length<=4194304 /\
  ∃ l':List (List Int),M56 Ar.std (eP P) (Int.ofNat (142+k))=some (0,(O.length:Int),a0D l')/\l'.take O.length=O/\O.length<=l'.length /\ ∀ x∈l',GH x:=by
 obtain ⟨done,hd,hdn,hit⟩:=b3T hK hv;have hlen:=b0P hK hv hdn (fun s hs=>(hd s).1 hs);have hmem : ∀ o,o∈outs P done↔Can k P o:=by
  intro o;unfold outs Can;rw [List.mem_map];constructor
  ·rintro ⟨s,hs,rfl⟩;rw [List.mem_filter] at hs;obtain ⟨hw,hst⟩:=a1t hK hv ((hd s).1 hs.1);exact ⟨vw P s,hst,(a9b hv hw.wf).1 hs.2,a7M s⟩
  rintro ⟨a,h1,h2,rfl⟩;obtain ⟨s,hs,rfl⟩:=a6T hK hv h1;obtain ⟨hw,hst⟩:=a1t hK hv hs;exact ⟨s,List.mem_filter.2 ⟨(hd s).2 hs,(a9b hv hw.wf).2 h2⟩,(a7M s).symm⟩

 have hne:1<=(outs P done).length:=by
  have hex : ∃ o,Can k P o:=by
   have key : ∀ n (s:Sta),mu P s<n->Reach (scs k P) s0 s -> ∃ u,Reach (scs k P) s0 u/\b0G P (vw P u):=by
    intro n
    induction n with
    | zero=>intro s h;omega
    | succ n ih =>
      intro s hs hr;obtain ⟨hw,_⟩:=a1t hK hv hr;by_cases h : ∃ u,u∈scs k P s
      ·obtain ⟨u,hu⟩:=h;have:=a9u.mu hK hv hw ((a3l hK hv hw).1 hu);exact ih u (by omega) (.step hr hu)
      refine ⟨s,hr,a5Q (k:=k) (fun t i ht hi hm => ?_) (fun t ht => ?_)⟩
      ·exact h ⟨_,(a3l hK hv hw).2 (.inl ⟨t,i,ht,hi,hm,rfl⟩)⟩
      rw [b1Q hv hw ht];refine (a4B hv hw ht).2 ?_;have w:=hw.wf.w4 hv (lt3 hv ht);by_cases h0:0<s (38+t)
      ·by_cases hk2:k=2
       ·exact absurd ⟨_,(a3l hK hv hw).2 (.inr ⟨t,ht,hk2,h0,rfl⟩)⟩ h
       exact hw.nb hk2 t (lt3 hv ht)
      omega
   obtain ⟨u,hu,hf⟩:=key (mu P s0+1) s0 (by omega) .init;exact ⟨_,vw P u,(a1t hK hv hu).2,hf,rfl⟩
  obtain ⟨o,ho⟩:=hex;have:=(hmem o).2 ho;exact List.length_pos_of_mem this
 have hg : ∀ h∈outs P done,GH h:=by
  intro h hh;obtain ⟨s,_,rfl⟩:=List.mem_map.1 hh;have h8:=a6U hv (Wf.init P);show (a4E P s).length<_;unfold a4E;simp;omega
 obtain ⟨ss,h1,h2,h3,r20,l',e1,e2,e3⟩:=a9f (outs P done) hne (by omega) hg;refine ⟨ss,h1,fun o=>(h2 o).trans (hmem o),by omega,l',?_,e3⟩;unfold M56;have eZ:Z41=eS s0:=b9T;rw [show (zz0:List D)=eS s0 from eZ];refine bck (b3H s0) ?_;refine bt (v:=a0D (outs P done)) ?_ ?_
 ·exact hit
 refine cnT (by rw [a1U];simp;omega) (bt e1 (bt e2 rfl))
end
def a1l (z:Int):Bool:=decide (1<=z)&&decide (z<=3)
theorem b6A (z:Int):M95 Ar.std z=some (if a1l z=true then Int.ofNat (142+z.toNat) else -1):=by
 unfold M95 a1l;simp only [a2u];by_cases h1:z=1
 ·subst h1;rfl
 by_cases h2:z=2
 ·subst h2;rfl
 by_cases h3:z=3
 ·subst h3;rfl
 rw [if_neg (by simp;omega)];simp [h1,h2,h3]
theorem a3N {z:Int} (h:a1l z=true):Kind z.toNat/\z=(z.toNat:Int):=by
 unfold a1l at h;simp at h;unfold Kind;omega
def ifs (ks:List Int):List D:=ks.map fun z => .iface (Int.ofNat (142+z.toNat))
theorem b3U {P:Pg} (hP:a2q P) (ks:List Int) (hks:ks.length<=10) :
  M55 Ar.std (eP P) (a0q ks)=some (bif a2W P then (bif ks.all a1l then (ifs ks,0) else ([],2)) else ([],40)):=by
 unfold M55;refine bt (b9M hP) ?_;cases a2W P with
 | false=>rfl
 | true =>
   simp only [cond_true];have key:=a2F (step:=b2e Ar.std (a0q ks)) ks.length (fun (l:List D) i=>(l,(i:Int))) (fun i l=>l=ifs (ks.take i)/\(ks.take i).all a1l=true) (fun i x=>x = .inr ()/\ks.all a1l=false) (fun l => .inl l)
    (fun i l hi hR=>by
     obtain ⟨rfl,hall⟩:=hR;have hx:=zp1 hi;generalize ks[i]=z at hx;have ew:Ar.std.wrp .i64 (Ar.std.zadd (i:Int) 1)=((i+1:Nat):Int):=by simp only [a0i,a0k];exact a1Y (n:=10) (by omega) (by omega)
     unfold b2e;cases hk:a1l z with
     | true =>
       refine .inl ⟨ifs (ks.take i++[z]),⟨?_,?_⟩,cnT (by simp [hi]) (bt (a0R hx) (bt (b6A z) ?_))⟩
       ·rw [a0n hx]
       ·rw [a0n hx,List.all_append,hall];simp [hk]
       rw [if_pos hk];refine cnF (by simp;omega) ?_;rw [ew];have:=a8T (fun z:Int=>D.iface (Int.ofNat (142+z.toNat))) (ks.take i) [z] (by simp;omega);refine bt this ?_;unfold ifs;rfl
     | false =>
       refine .inr ⟨.inr (),⟨rfl,?_⟩,cnT (by simp [hi]) (bt (a0R hx) (bt (b6A z) ?_))⟩
       ·rw [Bool.eq_false_iff];intro h;rw [List.all_eq_true] at h;rw [h z (List.mem_of_getElem? hx)] at hk;cases hk
       rw [if_neg (by simp [hk])];exact cnT (by simp) rfl)
    (fun l hl=>by
     unfold b2e;exact cnF (by simp) rfl) [] ⟨rfl,rfl⟩
   rcases key with ⟨l,⟨rfl,hall⟩,h⟩ | ⟨i,x,_,⟨rfl,hall⟩,h⟩
   ·rw [List.take_length] at hall h;rw [hall];exact bt h rfl
   rw [hall];exact bt h rfl
structure IsO (k:Nat) (P:Pg) (O:List (List Int)):Prop where
 ss:SS O
 mem : ∀ o,o∈O↔Can k P o
 len:O.length<=4194304
theorem Can.len {k:Nat} {P:Pg} (hK:Kind k) (hv:VP P) {o:List Int} (h:Can k P o):o.length<=11 /\ ∀ x∈o,0<=x/\x<=3:=by
 obtain ⟨a,h1,h2,rfl⟩:=h;obtain ⟨s,hs,rfl⟩:=a6T hK hv h1;obtain ⟨hw,_⟩:=a1t hK hv hs;have h8:=a6U hv hw.wf;rw [a7M];refine ⟨by unfold a4E;simp;omega,a5U hv hw.wf⟩
theorem IsO.unique {k:Nat} {P:Pg} {O O':List (List Int)} (h:IsO k P O) (h':IsO k P O'):O=O':=a9e h.ss h'.ss (fun x=>(h.mem x).trans (h'.mem x).symm)
theorem b6B {P:Pg} (hP:a2q P) (z:Int) :
  (a2W P=false/\M19 Ar.std (eP P) z=some ([],40))\/(a2W P=true/\a1l z=false/\M19 Ar.std (eP P) z=some ([],2)) \/
  (a2W P=true/\a1l z=true /\ ∃ O,IsO z.toNat P O/\M19 Ar.std (eP P) z=some (a0D O,0)):=by
 have e:=b3U hP [z] (by simp);unfold M19;cases hv:a2W P with
 | false =>
   rw [hv] at e;exact .inl ⟨rfl,bt e rfl⟩
 | true =>
   rw [hv] at e;have hall:[z].all a1l=a1l z:=by simp
   rw [hall] at e;cases hk:a1l z with
   | false =>
     rw [hk] at e;exact .inr (.inl ⟨rfl,rfl,bt e rfl⟩)
   | true =>
     rw [hk] at e;obtain ⟨hK,hz⟩:=a3N hk;obtain ⟨O,h1,h2,h3,l',e1,e2,e3,e4⟩:=a9g hK (VP.of hv);refine .inr (.inr ⟨rfl,rfl,O,⟨h1,h2,h3⟩,bt e ?_⟩);simp only [cond_true];refine cnT rfl (bt (v:=Int.ofNat (142+z.toNat)) rfl (bt e1 (bt (a9W l' e3) ?_)));rw [e2]
theorem half {a b:Nat} (h:a+b<4294967296):Ar.std.wrp .i64 (Ar.std.shr .u64 (Ar.std.wrp .u64 (Ar.std.wrp .i64 (Ar.std.zadd (a:Int) (b:Int)))) 1)=(((a+b) / 2:Nat):Int):=by
 simp only [a0i,a0k];have e0:IntKind.i64.wrap ((a:Int)+(b:Int))=((a+b:Nat):Int):=by
  rw [a2Y _ (by omega) (by omega)];omega
 have e:IntKind.u64.wrap (((a+b:Nat):Int))=((a+b:Nat):Int):=by
  simp [IntKind.wrap_u64];omega
 rw [e0,e];have e2:Ar.std.shr .u64 ((a+b:Nat):Int) 1=(((a+b) / 2:Nat):Int):=by
  show (((a+b:Nat):Int)).fdiv (2 ^ (min (1:Int).toNat IntKind.u64.bits))=_;have:(min (1:Int).toNat IntKind.u64.bits)=1:=rfl;rw [this];simp [Int.fdiv_eq_ediv]
 rw [e2,a2Y _ (by omega) (by omega)]
instance (a b:List Int):Decidable (ltL a b):=inferInstanceAs (Decidable (cmpL a b<0))
theorem b7U {O:List (List Int)} (hs:SS O) (hl:O.length<=5000000) (hg : ∀ x∈O,GH x) {x:List Int} (hx:GH x) :
  ∃ r:Nat,b8X Ar.std (a0D O) (a0q x)=some ((r:Int),decide (x∈O)):=by
 have hp:=List.pairwise_iff_getElem.1 hs;have key : ∀ n lo hi,hi-lo<n->lo<=hi->hi<=O.length->(∀ i (h:i<O.length),i<lo->ltL O[i] x)->(∀ i (h:i<O.length),hi<=i -> ¬ ltL O[i] x) ->
   ∃ r:Nat,iter (a6t Ar.std (a0D O) (a0q x)) ((lo:Int),(hi:Int))=some (r:Int)/\r<=O.length/\(∀ i (h:i<O.length),i<r->ltL O[i] x)/\(∀ i (h:i<O.length),r<=i -> ¬ ltL O[i] x):=by
  intro n
  induction n with
  | zero=>intro _ _ h;omega
  | succ n ih =>
    intro lo hi hn hle hhi h1 h2;by_cases hlt:lo<hi
    ·have hm:(lo+hi) / 2<O.length:=by omega
     have hget:=zp1 hm;have hst:a6t Ar.std (a0D O) (a0q x) ((lo:Int),(hi:Int))=some (.inl (if ltL O[(lo+hi) / 2] x then ((((lo+hi) / 2+1:Nat):Int),(hi:Int)) else ((lo:Int),(((lo+hi) / 2:Nat):Int)))):=by
      unfold a6t;dsimp only;rw [half (by omega)];refine cnT (by simp;omega) (bnk (by simp) (bt (a7C hget) (bt (b0L (hg _ (zp6 _)) hx) ?_)));simp only [a3h,a0i,a0k];rw [a2Y _ (by omega) (by omega)];by_cases hc:ltL O[(lo+hi) / 2] x
      ·rw [if_pos hc,decide_eq_true (show cmpL O[(lo+hi) / 2] x<0 from hc)];rfl
      rw [if_neg hc,decide_eq_false (show ¬ cmpL O[(lo+hi) / 2] x<0 from hc)];rfl
     rw [a1d hst];by_cases hc:ltL O[(lo+hi) / 2] x
     ·rw [if_pos hc];refine ih ((lo+hi) / 2+1) hi (by omega) (by omega) hhi (fun i h hi' => ?_) h2;rcases Nat.lt_or_eq_of_le (Nat.le_of_lt_succ hi') with h' | h'
      ·exact a3D (hp i _ h hm h') hc
      subst h';exact hc
     rw [if_neg hc];refine ih lo ((lo+hi) / 2) (by omega) (by omega) (by omega) h1 (fun i h hi' => ?_);rcases Nat.lt_or_eq_of_le hi' with h' | h'
     ·exact fun hh=>hc (a3D (hp _ i hm h h') hh)
     subst h';exact hc
    have:lo=hi:=by omega
    subst this;refine ⟨lo,a0E ?_,hhi,h1,h2⟩;unfold a6t;exact cnF (by simp) rfl
 obtain ⟨r,e,hr,h1,h2⟩:=key (O.length+1) 0 O.length (by omega) (by omega) (Nat.le_refl _) (fun i _ h=>by omega) (fun i h h'=>by omega);refine ⟨r,?_⟩;unfold b8X;have e0:Ar.std.len (a0D O)=((O.length:Nat):Int):=by simp
 rw [e0];refine bt e ?_;refine bt (v:=decide (x∈O)) ?_ rfl;by_cases hrl:r<O.length
 ·have hget:=zp1 hrl;refine cnT (by simp;omega) (bt (a7C hget) (bt (b0L (hg _ (zp6 _)) hx) ?_));simp only [a2u,zp3];rw [decide_eq_decide,a5T];constructor
  ·intro h;rw [<-h];exact zp6 _
  intro h;obtain ⟨j,hj,rfl⟩:=List.mem_iff_getElem.1 h;rcases Nat.lt_trichotomy r j with h' | h' | h'
  ·exact absurd (hp r j hrl hj h') (h2 r hrl (Nat.le_refl _))
  ·subst h';rfl
  exact absurd (h1 j hj h') (a2S _)
 refine cnF (by simp;omega) ?_;simp only [zp3];symm;rw [decide_eq_false_iff_not];intro h;obtain ⟨j,hj,rfl⟩:=List.mem_iff_getElem.1 h;exact absurd (h1 j hj (by omega)) (a2S _)
theorem b6C {O:List (List Int)} (hs:SS O) (hl:O.length<=5000000) (hg : ∀ x∈O,GH x) {x:List Int} (hx:GH x):M59 Ar.std (a0D O) (a0q x)=some (decide (x∈O)):=by
 obtain ⟨r,e⟩:=b7U hs hl hg hx;unfold M59;exact bt e rfl
theorem IsO.gh {k:Nat} {P:Pg} (hK:Kind k) (hv:VP P) {O:List (List Int)} (h:IsO k P O) : ∀ x∈O,GH x:=fun x hx=>by
 have:=(Can.len hK hv ((h.mem x).1 hx)).1;show x.length<_;omega
open Classical in
theorem b6D {P:Pg} (hP:a2q P) (z:Int) {x:List Int} (hx:GH x) :
  (a2W P=false/\M21 Ar.std (eP P) z (a0q x)=some (false,40))\/(a2W P=true/\a1l z=false/\M21 Ar.std (eP P) z (a0q x)=some (false,2)) \/
  (a2W P=true/\a1l z=true/\M21 Ar.std (eP P) z (a0q x)=some (decide (Can z.toNat P x),0)):=by
 unfold M21;rcases b6B hP z with ⟨h1,e⟩ | ⟨h1,h2,e⟩ | ⟨h1,h2,O,hO,e⟩
 ·exact .inl ⟨h1,bt e rfl⟩
 ·exact .inr (.inl ⟨h1,h2,bt e rfl⟩)
 refine .inr (.inr ⟨h1,h2,bt e ?_⟩);have hK:=(a3N h2).1;refine bt (v:=decide (Can z.toNat P x)) (cnT rfl (bt (b6C hO.ss (by have:=hO.len;omega) (hO.gh hK (VP.of h1)) hx) ?_)) rfl;rw [zp3,decide_eq_decide];exact hO.mem x
theorem b3V {O:List (List Int)} (hs:SS O) (hl:O.length<=5000000) (hg : ∀ x∈O,GH x) {x:List Int} (hx:GH x):M69 Ar.std (a0q x) (a0D O)=some (decide (x∈O)):=by
 unfold M69;exact bt (b6C hs hl hg hx) rfl
def a1T (O:List (List Int)) (l:List (List Int)):List (List Int):=l.filter fun x => !decide (x∈O)
theorem a4F {O l:List (List Int)} {i:Nat} {x:List Int} (h:l[i]?=some x):a1T O (l.take (i+1))=bif decide (x∈O) then a1T O (l.take i) else a1T O (l.take i)++[x]:=by
 unfold a1T;rw [a0n h,List.filter_append];cases hd:decide (x∈O) <;> simp [hd]
theorem b3W (O l:List (List Int)) (i:Nat):(a1T O (l.take i)).length<=i:=by
 unfold a1T;have:=List.length_filter_le (fun x => !decide (x∈O)) (l.take i);have h2:(l.take i).length<=i:=by simp;omega
 omega
theorem c0j {O:List (List Int)} (hs:SS O) (hl:O.length<=5000000) (hg : ∀ x∈O,GH x) {n:Nat} (hn:n<=5000000) {l:List (List Int)} (hnl:n<=l.length) (hll : ∀ x∈l,GH x) :
  ∃ l':List (List Int),M68 Ar.std 0 (n:Int) (a0D O) (a0D l)=some (0,((a1T O (l.take n)).length:Int),a0D l')/\l'.take (a1T O (l.take n)).length=a1T O (l.take n)/\(a1T O (l.take n)).length<=l'.length:=by
 have ew : ∀ i:Nat,i<=5000000->Ar.std.wrp .i64 (Ar.std.zadd (i:Int) 1)=((i+1:Nat):Int):=fun i hi=>by
  simp only [a0i,a0k];exact a1Y (n:=5000001) (by omega) (by omega)
 have ez : ∀ i:Nat,Ar.std.nat (Ar.std.zadd 0 (i:Int))=i:=fun i=>by simp
 have e0:b8Y Ar.std 0 (n:Int) (a0D O) (a0D l)=some (((l.take n).findIdx? fun x=>decide (x∈O)).elim (-1) (fun i=>(i:Int))):=by
  have hlen:(l.take n).length=n:=by rw [List.length_take];omega
  have key:=a8W (step:=a8m Ar.std 0 (n:Int) (a0D O) (a0D l)) (l.take n) (fun x=>decide (x∈O)) (fun i=>Sum.inr (i:Int)) (Sum.inl ()) (fun i a ha hi=>by
   rw [hlen] at hi;rw [List.getElem?_take_of_lt hi] at ha;unfold a8m;refine cnT (by simp [hi]) (bc (bck (by simp [hi]) ?_));rw [ez];refine bt (a5b ha rfl) (bt (b3V hs hl hg (hll a (List.mem_of_getElem? ha))) ?_);rw [ew i (by omega)];cases decide (a∈O) <;> rfl) (by
   rw [hlen];unfold a8m;exact cnF (by simp) rfl)
  unfold b8Y;refine bt key ?_;exact a8X _ _
 unfold M68;cases hf:(l.take n).findIdx? fun x=>decide (x∈O) with
 | none =>
   rw [hf] at e0;rw [List.findIdx?_eq_none_iff] at hf;have e:a1T O (l.take n)=l.take n:=by
    unfold a1T;rw [List.filter_eq_self];intro x hx;have:=hf x hx;simp at this ⊢;exact this
   have hlen:(l.take n).length=n:=by rw [List.length_take];omega
   rw [e];refine ⟨l,bt e0 ?_,by rw [hlen],by omega⟩;rw [hlen];exact cnT (by simp) rfl
 | some q =>
   rw [hf] at e0;obtain ⟨hq,hq1,hq2⟩:=List.findIdx?_eq_some_iff_getElem.1 hf;have hqn:q<n:=by rw [List.length_take] at hq;omega
   simp only [Option.elim_some] at e0;have hkq : ∀ i,i<=q->a1T O (l.take i)=l.take i:=by
    intro i
    induction i with
    | zero=>intro _;rfl
    | succ i ih =>
      intro hi;have hx:l[i]?=some l[i]:=zp1 (by omega);have:=hq2 i (by omega);rw [List.getElem_take] at this;rw [a4F hx,ih (by omega),show decide (l[i]∈O)=false by simpa using this,cond_false,a0n hx]
   have hxq:l[q]?=some l[q]:=zp1 (by omega);have hkq1:a1T O (l.take (q+1))=l.take q:=by
    rw [List.getElem_take] at hq1;rw [a4F hxq,hq1,cond_true,hkq q (Nat.le_refl _)]
   obtain ⟨⟨w,m⟩,⟨h1,h2,h3,h4,h5⟩,e⟩:=a0M (step:=b1i Ar.std 0 (n:Int) (a0D O)) (n-q-1) (fun (s:Nat×List (List Int)) (i:Nat)=>((s.1:Int),((q+1+i:Nat):Int),a0D s.2))
    (fun i s=>s.1=(a1T O (l.take (q+1+i))).length/\s.2.take s.1=a1T O (l.take (q+1+i))/\s.2.length=l.length/\(∀ j,q+1+i<=j->s.2[j]?=l[j]?)/\s.1<=q+i) (fun s=>((s.1:Int),a0D s.2))
    (fun i s hi hR=>by
     obtain ⟨w,m⟩:=s;obtain ⟨g1,g2,g3,g4,g5⟩:=hR;simp only at g1 g2 g3 g4 g5;have hx:l[q+1+i]?=some l[q+1+i]:=zp1 (by omega);have mx:m[q+1+i]?=some l[q+1+i]:=by rw [g4 _ (Nat.le_refl _),hx]
     have gx:=hll _ (List.mem_of_getElem? hx);have hsucc:=a4F (O:=O) hx;rw [show q+1+i+1=q+1+(i+1) by omega] at hsucc;cases hd:decide (l[q+1+i]∈O) with
     | true =>
       rw [hd,cond_true] at hsucc;refine ⟨(w,m),⟨by rw [hsucc];exact g1,by rw [hsucc];exact g2,g3,fun j hj=>g4 j (by omega),by simp only;omega⟩,?_⟩;unfold b1i;dsimp only;rw [ez];refine cnT (by simp;omega) (bc (bc (bt (a5b mx rfl) (bt (b3V hs hl hg gx) ?_))));rw [hd,ew (q+1+i) (by omega)];rfl
     | false =>
       rw [hd,cond_false] at hsucc;have htk:(m.set w l[q+1+i]).take (w+1)=a1T O (l.take (q+1+i))++[l[q+1+i]]:=by
        have:(m.set w l[q+1+i])[w]?=some l[q+1+i]:=List.getElem?_set_self (by omega);rw [a0n this,List.take_set_of_le (Nat.le_refl _),g2]
       refine ⟨(w+1,m.set w l[q+1+i]),⟨by rw [hsucc,List.length_append,<-g1];rfl,by rw [hsucc];exact htk,by simp only [List.length_set];exact g3,fun j hj => ?_,by simp only;omega⟩,?_⟩
       ·simp only;rw [List.getElem?_set_ne (by omega)];exact g4 j (by omega)
       unfold b1i;dsimp only;rw [ez,ez];refine cnT (by simp;omega) (bc (bc (bt (a5b mx rfl) (bt (b3V hs hl hg gx) ?_))));rw [hd,ew (q+1+i) (by omega)];refine bt (v:=(((w+1:Nat):Int),a0D (m.set w l[q+1+i]))) ?_ rfl;refine cnF rfl (bc (bck (by simp;omega) ?_));have hd' : ∃ d,Ar.std.lget (a0D m) w=some d:=⟨_,zp1 (by simp;omega)⟩;obtain ⟨d,hd'⟩:=hd';refine bt hd' ?_;rw [b6x m w _ rfl,ew w (by omega)])
    (fun s _=>by
     unfold b1i;exact cnF (by simp;omega) rfl) (q,l) ⟨by rw [Nat.add_zero,hkq1,List.length_take];omega,by rw [Nat.add_zero,hkq1],rfl,fun _ _=>rfl,by simp⟩
   have hqn2:q+1+(n-q-1)=n:=by omega
   rw [hqn2] at h1 h2;simp only at h1 h2 h3 h5 e;rw [<-h1];have hwn:w<=n:=by rw [h1];exact b3W O l n
   refine ⟨m.take w++List.replicate (n-w) []++m.drop n,?_,?_,?_⟩
   ·refine bt e0 (cnF (by simp) ?_);rw [ew q (by omega)];rw [Nat.add_zero] at e;refine bt e ?_;dsimp only;rw [a1U];refine bc (bc (bc (bck (by simp;omega) (bc (bc (bc ?_))))));have hf:Ar.std.fill (a0D m) (Ar.std.zadd 0 (w:Int)) (Ar.std.zsub (n:Int) (w:Int)) (.list 1 [])=a0D (m.take w++List.replicate (n-w) []++m.drop n):=by
     have a1:Ar.std.zadd 0 (w:Int)=(w:Int):=by simp
     have a2:Ar.std.zsub (n:Int) (w:Int)=((n-w:Nat):Int):=by simp;omega
     rw [a1,a2,a7x];unfold a1b a0D enc;rw [Int.toNat_natCast,Int.toNat_natCast,List.map_append,List.map_append,List.map_append,List.map_append,List.map_take,List.map_take,List.map_drop,List.map_drop,List.map_replicate,List.map_replicate,show w+(n-w)=n by omega];rfl
    rw [hf];simp
   ·have hml:w<=m.length:=by omega
    rw [List.append_assoc,List.take_append_of_le_length (by simp;omega),List.take_take,Nat.min_self];exact h2
   simp;omega
theorem b6E {P:Pg} (hP:a2q P) (y z:Int) :
  (a2W P=false/\M26 Ar.std (eP P) y z=some ([],40))\/(a2W P=true/\(a1l y&&a1l z)=false/\M26 Ar.std (eP P) y z=some ([],2)) \/
  (a2W P=true/\a1l y=true/\a1l z=true /\ ∃ O O',IsO y.toNat P O/\IsO z.toNat P O'/\M26 Ar.std (eP P) y z=some (a0D (a1T O' O),0)):=by
 have e:=b3U hP [y,z] (by simp);unfold M26;cases hv:a2W P with
 | false =>
   rw [hv] at e;exact .inl ⟨rfl,bt e rfl⟩
 | true =>
   rw [hv] at e;have hall:[y,z].all a1l=(a1l y&&a1l z):=by simp
   rw [hall] at e;cases hk:(a1l y&&a1l z) with
   | false =>
     rw [hk] at e;exact .inr (.inl ⟨rfl,rfl,bt e rfl⟩)
   | true =>
     rw [hk] at e;rw [zp4] at hk;have hK:=(a3N hk.1).1;have hK':=(a3N hk.2).1;obtain ⟨O,h1,h2,h3,l,e1,e2,e3,e4⟩:=a9g hK (VP.of hv);obtain ⟨O',h1',h2',h3',l',e1',e2',e3',e4'⟩:=a9g hK' (VP.of hv);have hO':IsO z.toNat P O':=⟨h1',h2',h3'⟩;obtain ⟨m,f1,f2,f3⟩:=c0j h1' (by omega) (hO'.gh hK' (VP.of hv)) (n:=O.length) (by omega) e3 e4;rw [e2] at f1 f2 f3;refine .inr (.inr ⟨rfl,hk.1,hk.2,O,O',⟨h1,h2,h3⟩,hO',bt e ?_⟩);simp only [cond_true];refine cnT rfl (bt (v:=Int.ofNat (142+z.toNat)) rfl (bt e1' (bt (a9W l' e3') ?_)));rw [e2'];refine bt (v:=Int.ofNat (142+y.toNat)) rfl (bt e1 (bt f1 (bt (a9W m f3) ?_)));rw [f2]
theorem c0k {P:Pg} (hP:a2q P) (hv:a2W P=true) : ∃ O O',IsO 3 P O/\IsO 1 P O'/\M32 Ar.std (eP P)=some (decide (a1T O' O=[]),0):=by
 unfold M32;rcases b6E hP 3 1 with ⟨h,_⟩ | ⟨_,h,_⟩ | ⟨_,_,_,O,O',h1,h2,e⟩
 ·rw [hv] at h;cases h
 ·cases h
 refine ⟨O,O',h1,h2,bt e ?_⟩;refine bt (v:=decide (a1T O' O=[])) (cnT rfl ?_) rfl;rw [a1U];simp
def a7N:List Int->List Int->Int
 | x::l,y::m=>if x=y then a7N l m else x-y
 | a,b=>(a.length:Int)-b.length
theorem a5V : ∀ {a b:List Int},(a7N a b<0↔ltL a b)/\(a7N a b=0↔a=b)
 | [],[]=>by simp [a7N,ltL,cmpL]
 | [],_::_=>by simp [a7N,ltL,cmpL];omega
 | _::_,[]=>by simp [a7N,ltL,cmpL];omega
 | a::l,b::m=>by
   rw [a7L,List.cons.injEq];unfold a7N;by_cases h:a=b
   ·rw [if_pos h];obtain ⟨h1,h2⟩:=a5V (a:=l) (b:=m);rw [h1,h2];simp [h]
   rw [if_neg h];simp only [h,false_and,or_false,iff_false];omega
theorem b3X {a b:List Int} (ha:a.length<4294967296) (hb:b.length<4294967296) (va : ∀ x∈a,-4294967296<x/\x<4294967296) (vb : ∀ x∈b,-4294967296<x/\x<4294967296):M30 Ar.std (a0q a) (a0q b)=some (a7N a b):=by
 have key : ∀ k i,i+k=a.length->i<=b.length -> ∃ x,iter (a4f Ar.std (a0q a) (a0q b)) (i:Int)=some x /\
   Sum.elim (fun _:Unit=>some (Ar.std.wrp .i64 (Ar.std.zsub (Ar.std.len (a0q a)) (Ar.std.len (a0q b))))) (fun v:Int=>some v) x=some (a7N (a.drop i) (b.drop i)):=by
  have hend : ∀ i,i<=a.length->i<=b.length->(i=a.length\/i=b.length)->some (Ar.std.wrp .i64 (Ar.std.zsub (Ar.std.len (a0q a)) (Ar.std.len (a0q b))))=some (a7N (a.drop i) (b.drop i)):=by
   intro i h1 h2 h3;simp only [a0W,a0i,a0C];rw [a2Y _ (by omega) (by omega)];have e:a7N (a.drop i) (b.drop i)=((a.drop i).length:Int)-((b.drop i).length:Int):=by
    rcases h3 with h3 | h3
    ·rw [List.drop_eq_nil_of_le (by omega:a.length<=i)];cases b.drop i <;> rfl
    rw [List.drop_eq_nil_of_le (by omega:b.length<=i)];cases a.drop i <;> rfl
   rw [e,List.length_drop,List.length_drop];congr 1;omega
  intro k
  induction k with
  | zero =>
    intro i hi hib;obtain rfl:i=a.length:=by omega
    refine ⟨.inl (),a0E (by unfold a4f;exact bt (cnF (by simp) rfl) rfl),hend _ (Nat.le_refl _) hib (.inl rfl)⟩
  | succ k ih =>
    intro i hi hib;have hia:i<a.length:=by omega
    have h1:=zp1 hia;by_cases hb':i<b.length
    ·have h2:=zp1 hb';rw [List.drop_eq_getElem_cons hia,List.drop_eq_getElem_cons hb'];have x1:=va _ (zp6 hia);have x2:=vb _ (zp6 hb');have hst:a4f Ar.std (a0q a) (a0q b) (i:Int)=some (bif decide (a[i]=b[i]) then .inl ((i+1:Nat):Int) else .inr (.inr (a[i]-b[i]))):=by
      unfold a4f;refine bt (v:=true) (cnT (by simp [hia]) (by simp [hb'])) (cnT rfl (bt (a0R h1) (bt (a0R h2) ?_)));simp only [a2u,a0i,a0k,a0C];rw [a2Y _ (by omega) (by omega),a2Y _ (by omega) (by omega)];cases decide (a[i]=b[i]) <;> rfl
     by_cases hz:a[i]=b[i]
     ·rw [decide_eq_true hz] at hst;obtain ⟨x,e1,e2⟩:=ih (i+1) (by omega) (by omega);refine ⟨x,by rw [a1d hst];exact e1,?_⟩;rw [e2,a7N,if_pos hz]
     rw [decide_eq_false hz] at hst;refine ⟨_,a0E hst,?_⟩;rw [a7N,if_neg hz];rfl
    refine ⟨.inl (),a0E ?_,hend _ (by omega) hib (.inr (by omega))⟩;unfold a4f;exact bt (v:=false) (cnT (by simp [hia]) (by simp;omega)) (cnF rfl rfl)
 obtain ⟨x,e1,e2⟩:=key a.length 0 (by omega) (by omega);unfold M30;refine bt e1 ?_;simpa using e2
def SmL (x:List Int):Prop:=x.length<4294967296 /\ ∀ y∈x,-4294967296<y/\y<4294967296
theorem b1S {P:Pg} {s:AS} (h:Stps 1 P AS.init s):Stps 2 P AS.init s /\ ∀ t,s.bf t=[]:=by
 induction h with
 | refl=>exact ⟨.refl _,fun _=>rfl⟩
 | @tail u v h h' ih =>
   obtain ⟨i1,i2⟩:=ih;cases h' with
   | out t ht hk=>cases hk
   | act t i ht hi hm =>
     have hm2:a2G 2 (thr P t) (u.t t) i:=⟨hm.1,fun j hj _=>hm.2.1 j hj (.inl (by decide)),fun _ _=>i2 t⟩;have h1:=i1.tail (.act t i ht hi hm2);by_cases ha:(aAt (thr P t) i).1=2
     ·have e:doA 1 P u t i=outB (doA 2 P u t i) t:=by
       unfold outB;have hb:(doA 2 P u t i).bf t=[((aAt (thr P t) i).2.1,(aAt (thr P t) i).2.2)]:=by
        unfold doA;simp [ha,i2 t]
       rw [hb];unfold doA;simp only [ha];have hf:fup (fup u.bf t [((aAt (thr P t) i).2.1,(aAt (thr P t) i).2.2)]) t []=u.bf:=by
        rw [b7x];have:=a5O u.bf t;rw [i2 t] at this;exact this
       simp [i2 t];exact hf.symm
      refine ⟨?_,fun t' => ?_⟩
      ·rw [e];refine h1.tail (.out t ht rfl ?_);unfold doA;simp [ha]
      unfold doA;simp [i2 t']
     have e:doA 1 P u t i=doA 2 P u t i:=by
      unfold doA;simp [ha]
     rw [e];exact ⟨h1,fun t'=>by unfold doA;simp [ha,i2 t']⟩
theorem Can.strict {P:Pg} {o:List Int} (h:Can 1 P o):Can 2 P o:=by
 obtain ⟨s,h1,h2,h3⟩:=h;exact ⟨s,(b1S h1).1,h2,h3⟩
def sts (l:List Ac) (h n:Nat):List (Int×Int):=(List.range' h (n-h)).filterMap fun i=>if (aAt l i).1=2 then some ((aAt l i).2.1,(aAt l i).2.2) else none
theorem b0Q {l:List Ac} {h n:Nat} (hn:h<=n):sts l h (n+1)=sts l h n++if (aAt l n).1=2 then [((aAt l n).2.1,(aAt l n).2.2)] else []:=by
 unfold sts;rw [show n+1-h=n-h+1 by omega,List.range'_concat,List.filterMap_append,show h+1*(n-h)=n by omega];by_cases ha:(aAt l n).1=2 <;> simp [ha]
theorem b5z {l:List Ac} {n:Nat} {e:Int×Int} {r:List (Int×Int)} : ∀ {h:Nat},sts l h n=e::r -> ∃ j,h<=j/\j<n/\(aAt l j).1=2/\e=((aAt l j).2.1,(aAt l j).2.2)/\r=sts l (j+1) n /\ ∀ i,h<=i->i<j->(aAt l i).1≠2:=by
 intro h;generalize hk:n-h=k
 induction k generalizing h with
 | zero=>intro hh;unfold sts at hh;rw [hk] at hh;simp at hh
 | succ k ih =>
   intro hh;unfold sts at hh;rw [hk,List.range'_succ,List.filterMap_cons] at hh;by_cases ha:(aAt l h).1=2
   ·rw [if_pos ha] at hh;simp only [List.cons.injEq] at hh;refine ⟨h,Nat.le_refl _,by omega,ha,hh.1.symm,?_,fun i h1 h2=>by omega⟩;rw [<-hh.2];unfold sts;rw [show n-(h+1)=k by omega]
   rw [if_neg ha] at hh;obtain ⟨j,j1,j2,j3,j4,j5,j6⟩:=ih (h:=h+1) (by omega) (by unfold sts;rw [show n-(h+1)=k by omega];exact hh);refine ⟨j,by omega,j2,j3,j4,j5,fun i h1 h2 => ?_⟩;rcases Nat.lt_or_eq_of_le h1 with h' | h'
   ·exact j6 i h' h2
   subst h';exact ha
theorem a9X {l:List Ac} {h n:Nat} (hh:sts l h n=[]) : ∀ i,h<=i->i<n->(aAt l i).1≠2:=by
 intro i h1 h2 ha;unfold sts at hh;rw [List.filterMap_eq_nil_iff] at hh;have:=hh i (by rw [List.mem_range'_1];omega);simp [ha] at this
def snf (c:Int) (l:List (Int×Int)) (d:Int):Int:=l.foldl (fun v e=>if e.1=c then e.2 else v) d
theorem b3Y {l:List Ac} {c d:Int} {h:Nat} : ∀ {n:Nat},h<=n->((∀ i,h<=i->i<n->(aAt l i).1=2->(aAt l i).2.1≠c)/\snf c (sts l h n) d=d) \/
  ∃ j,h<=j/\j<n/\(aAt l j).1=2/\(aAt l j).2.1=c/\(∀ k,j<k->k<n->(aAt l k).1=2->(aAt l k).2.1≠c)/\snf c (sts l h n) d=(aAt l j).2.2:=by
 intro n
 induction n with
 | zero=>intro hn;refine .inl ⟨fun i h1 h2=>by omega,?_⟩;unfold sts;simp [snf]
 | succ n ih =>
   intro hn;by_cases hh:h=n+1
   ·refine .inl ⟨fun i h1 h2=>by omega,?_⟩;unfold sts;rw [hh];simp [snf]
   have hle:h<=n:=by omega
   rw [b0Q hle];by_cases ha:(aAt l n).1=2/\(aAt l n).2.1=c
   ·refine .inr ⟨n,hle,by omega,ha.1,ha.2,fun k h1 h2=>by omega,?_⟩;rw [if_pos ha.1];unfold snf;rw [List.foldl_append];simp [ha.2]
   have e:snf c (sts l h n++if (aAt l n).1=2 then [((aAt l n).2.1,(aAt l n).2.2)] else []) d=snf c (sts l h n) d:=by
    by_cases h2:(aAt l n).1=2
    ·rw [if_pos h2];unfold snf;rw [List.foldl_append];have : ¬ (aAt l n).2.1=c:=fun hc=>ha ⟨h2,hc⟩;simp [this]
    rw [if_neg h2,List.append_nil]
   rw [e];rcases ih hle with ⟨i1,i2⟩ | ⟨j,j1,j2,j3,j4,j5,j6⟩
   ·refine .inl ⟨fun i h1 h2 h3 hc => ?_,i2⟩;rcases Nat.lt_or_eq_of_le (Nat.le_of_lt_succ h2) with h' | h'
    ·exact i1 i h1 h' h3 hc
    subst h';exact ha ⟨h3,hc⟩
   refine .inr ⟨j,j1,by omega,j3,j4,fun i h1 h2 h3 hc => ?_,j6⟩;rcases Nat.lt_or_eq_of_le (Nat.le_of_lt_succ h2) with h' | h'
   ·exact j5 i h1 h' h3 hc
   subst h';exact ha ⟨h3,hc⟩
def pend (l:List Ac) (h i:Nat):Prop:=(aAt l i).1≠3 /\ ∃ j,h<=j/\j<=i/\(aAt l j).1=2/\(aAt l j).2.1=(aAt l i).2.1
def c2g (l:List Ac) (h i:Nat) (v:Int):Prop := ∃ j,h<=j/\j<i/\(aAt l j).1=2/\(aAt l j).2.1=(aAt l i).2.1/\(∀ k,j<k->k<i->(aAt l k).1=2->(aAt l k).2.1≠(aAt l i).2.1)/\v=(aAt l j).2.2
structure RelL (P:Pg) (T L:AS) (n h:Nat->Nat):Prop where
 hn : ∀ t,h t<=n t/\n t<=(thr P t).length
 dn : ∀ t i,T.dn t i=true↔i<n t
 bf : ∀ t,T.bf t=sts (thr P t) (h t) (n t)
 ln : ∀ t i,L.dn t i=true↔i<n t /\ ¬ pend (thr P t) (h t) i
 lb : ∀ t,L.bf t=[]
 ce:L.ce=T.ce
 rd : ∀ t i,i<n t->(aAt (thr P t) i).1=1->(¬ pend (thr P t) (h t) i->L.rd t i=T.rd t i)/\(pend (thr P t) (h t) i->c2g (thr P t) (h t) i (T.rd t i))
theorem RelL.init (P:Pg):RelL P AS.init AS.init (fun _=>0) (fun _=>0) where
 hn _:=⟨Nat.le_refl _,Nat.zero_le _⟩
 dn t i:=by simp [AS.init]
 bf t:=by simp [AS.init,sts]
 ln t i:=by simp [AS.init]
 lb _:=rfl
 ce:=rfl
 rd t i hi:=by omega
theorem RelL.act {P:Pg} {T L:AS} {n h:Nat->Nat} (hR:RelL P T L n h) {t i:Nat} (ht:t<P.length) (hi:i<(thr P t).length) (hm:a2G 2 (thr P t) (T.t t) i) :
  ∃ L',Stps 3 P L L'/\RelL P (doA 2 P T t i) L' (fup n t (n t+1)) h:=by
 have hin:i=n t:=by
  have h1 : ¬ i<n t:=fun hlt=>by
   have:=(hR.dn t i).2 hlt;rw [show T.dn t i=false from hm.1] at this;cases this
  by_cases h2:n t<i
  ·have:=(hR.dn t (n t)).1 (hm.2.1 _ h2 (.inl (by decide)));omega
  omega
 subst hin;obtain ⟨g1,g2⟩:=hR.hn t;have hn' : ∀ u,h u<=fup n t (n t+1) u/\fup n t (n t+1) u<=(thr P u).length:=by
  intro u;by_cases hu:u=t
  ·subst hu;rw [a0g];omega
  rw [a0c _ _ _ hu];exact hR.hn u
 have dn' : ∀ u i,(doA 2 P T t (n t)).dn u i=true↔i<fup n t (n t+1) u:=by
  intro u i;unfold doA;dsimp only;by_cases hu:u=t
  ·subst hu;rw [a0g,a0g];by_cases hx:i=n u
   ·subst hx;rw [a0g];simp
   rw [a0c _ _ _ hx,hR.dn u i];omega
  rw [a0c _ _ _ hu,a0c _ _ _ hu];exact hR.dn u i
 have bf' : ∀ u,(doA 2 P T t (n t)).bf u=sts (thr P u) (h u) (fup n t (n t+1) u):=by
  intro u;unfold doA;dsimp only;by_cases hu:u=t
  ·subst hu;rw [a0g,b0Q g1,<-hR.bf u];by_cases ha:(aAt (thr P u) (n u)).1=2
   ·rw [if_pos ⟨ha,rfl⟩,if_pos ha,a0g]
   rw [if_neg (fun hh=>ha hh.1),if_neg ha,List.append_nil]
  rw [a0c _ _ _ hu];by_cases ha:(aAt (thr P t) (n t)).1=2
  ·rw [if_pos ⟨ha,rfl⟩,a0c _ _ _ hu];exact hR.bf u
  rw [if_neg (fun hh=>ha hh.1)];exact hR.bf u
 have ce':(doA 2 P T t (n t)).ce=T.ce:=by
  unfold doA;simp
 have rdT : ∀ u i,¬ (u=t/\i=n t)->(doA 2 P T t (n t)).rd u i=T.rd u i:=by
  intro u i hui;unfold doA;dsimp only;split
  ·by_cases hu:u=t
   ·subst hu;rw [a0g,a0c _ _ _ (fun hh=>hui ⟨rfl,hh⟩)]
   rw [a0c _ _ _ hu]
  rfl
 have snT : ∀ c,sn T t c=snf c (sts (thr P t) (h t) (n t)) (T.ce c):=fun c=>by
  unfold sn snf;rw [hR.bf t]
 by_cases hp:pend (thr P t) (h t) (n t)
 ·refine ⟨L,.refl _,hn',dn',bf',?_,hR.lb,by rw [ce'];exact hR.ce,?_⟩
  ·intro u i;by_cases hu:u=t
   ·subst hu;rw [a0g,hR.ln u i];by_cases hx:i=n u
    ·subst hx;simp [hp]
    constructor
    ·rintro ⟨a,b⟩;exact ⟨by omega,b⟩
    rintro ⟨a,b⟩;exact ⟨by omega,b⟩
   rw [a0c _ _ _ hu];exact hR.ln u i
  intro u i hlt h1;by_cases hui:u=t/\i=n t
  ·obtain ⟨rfl,rfl⟩:=hui;refine ⟨fun hnp=>absurd hp hnp,fun _ => ?_⟩;have e:(doA 2 P T u (n u)).rd u (n u)=sn T u (aAt (thr P u) (n u)).2.1:=by
    unfold doA;dsimp only;rw [if_pos h1,a0g,a0g]
   rw [e,snT];rcases b3Y (l:=thr P u) (c:=(aAt (thr P u) (n u)).2.1) (d:=T.ce (aAt (thr P u) (n u)).2.1) g1 with ⟨i1,_⟩ | hh
   ·obtain ⟨_,j,j1,j2,j3,j4⟩:=hp;have:j≠n u:=fun hh=>by subst hh;rw [h1] at j3;cases j3
    exact absurd j4 (i1 j j1 (by omega) j3)
   exact hh
  rw [rdT u i hui];refine hR.rd u i ?_ h1;by_cases hu:u=t
  ·subst hu;rw [a0g] at hlt;have:i≠n u:=fun hh=>hui ⟨rfl,hh⟩;omega
  rw [a0c _ _ _ hu] at hlt;exact hlt
 have ha:(aAt (thr P t) (n t)).1≠2:=fun ha=>hp ⟨by rw [ha];decide,n t,g1,Nat.le_refl _,ha,rfl⟩;have hmL:a2G 3 (thr P t) (L.t t) (n t):=by
  refine ⟨?_,fun j hj hmu => ?_,fun hk=>by cases hk⟩
  ·cases hd:(L.t t).1 (n t) with
   | false=>rfl
   | true=>have:=((hR.ln t (n t)).1 hd).1;omega
  refine (hR.ln t j).2 ⟨hj,fun hpj => ?_⟩;obtain ⟨p1,q,q1,q2,q3,q4⟩:=hpj;rcases hmu with hk | h3 | h3 | h3
  ·exact absurd rfl hk
  ·have hbn:T.bf t=[]:=hm.2.2 rfl h3;rw [hR.bf t] at hbn;exact a9X hbn q q1 (by omega) q3
  ·exact p1 h3
  by_cases h33:(aAt (thr P t) (n t)).1=3
  ·have hbn:T.bf t=[]:=hm.2.2 rfl h33;rw [hR.bf t] at hbn;exact a9X hbn q q1 (by omega) q3
  exact hp ⟨h33,q,q1,by omega,q3,by rw [q4,h3]⟩
 refine ⟨doA 3 P L t (n t),Stps.one (.act t (n t) ht hi hmL),hn',dn',bf',?_,?_,?_,?_⟩
 ·intro u i;unfold doA;dsimp only;by_cases hu:u=t
  ·subst hu;rw [a0g,a0g];by_cases hx:i=n u
   ·subst hx;rw [a0g];simp [hp]
   rw [a0c _ _ _ hx,hR.ln u i];constructor
   ·rintro ⟨a,b⟩;exact ⟨by omega,b⟩
   rintro ⟨a,b⟩;exact ⟨by omega,b⟩
  rw [a0c _ _ _ hu,a0c _ _ _ hu];exact hR.ln u i
 ·intro u;unfold doA;simp only [ha,false_and,if_false];exact hR.lb u
 ·rw [ce'];unfold doA;simp only [ha,false_and,if_false];exact hR.ce
 intro u i hlt h1;by_cases hui:u=t/\i=n t
 ·obtain ⟨rfl,rfl⟩:=hui;refine ⟨fun _ => ?_,fun hh=>absurd hh hp⟩;have e:(doA 2 P T u (n u)).rd u (n u)=sn T u (aAt (thr P u) (n u)).2.1:=by
   unfold doA;dsimp only;rw [if_pos h1,a0g,a0g]
  have e2:(doA 3 P L u (n u)).rd u (n u)=sn L u (aAt (thr P u) (n u)).2.1:=by
   unfold doA;dsimp only;rw [if_pos h1,a0g,a0g]
  rw [e,e2,snT];have e3:sn L u (aAt (thr P u) (n u)).2.1=T.ce (aAt (thr P u) (n u)).2.1:=by
   unfold sn;rw [hR.lb u,hR.ce];rfl
  rw [e3];rcases b3Y (l:=thr P u) (c:=(aAt (thr P u) (n u)).2.1) (d:=T.ce (aAt (thr P u) (n u)).2.1) g1 with ⟨_,i2⟩ | ⟨j,j1,j2,j3,j4,_⟩
  ·exact i2.symm
  exact absurd ⟨by rw [h1];decide,j,j1,by omega,j3,j4⟩ hp
 rw [rdT u i hui];have hlt':i<n u:=by
  by_cases hu:u=t
  ·subst hu;rw [a0g] at hlt;have:i≠n u:=fun hh=>hui ⟨rfl,hh⟩;omega
  rw [a0c _ _ _ hu] at hlt;exact hlt
 have e:(doA 3 P L t (n t)).rd u i=L.rd u i:=by
  unfold doA;dsimp only;split
  ·by_cases hu:u=t
   ·subst hu;rw [a0g,a0c _ _ _ (fun hh=>hui ⟨rfl,hh⟩)]
   rw [a0c _ _ _ hu]
  rfl
 rw [e];exact hR.rd u i hlt' h1
theorem drain {P:Pg} {L:AS} {t h j n:Nat} (ht:t<P.length) (hjn:j<n) (hnl:n<=(thr P t).length) (hhj:h<=j) (hst:(aAt (thr P t) j).1=2) (hno : ∀ i,h<=i->i<j->(aAt (thr P t) i).1≠2)
  (ln : ∀ i,L.dn t i=true↔i<n /\ ¬ pend (thr P t) h i) (lb : ∀ t,L.bf t=[]) : ∀ m,j+1<=m->m<=n -> ∃ L',Stps 3 P L L'/\L'.ce=fup L.ce (aAt (thr P t) j).2.1 (aAt (thr P t) j).2.2/\(∀ u,L'.bf u=[]) /\
   (∀ u,u≠t->L'.dn u=L.dn u/\L'.rd u=L.rd u)/\(∀ x,L'.dn t x=true↔x<n/\((x<m /\ ¬ pend (thr P t) (j+1) x)\/(m<=x /\ ¬ pend (thr P t) h x))) /\
   (∀ x,(aAt (thr P t) x).1=1->(x<m->pend (thr P t) h x -> ¬ pend (thr P t) (j+1) x->L'.rd t x=(aAt (thr P t) j).2.2)/\(¬ (x<m/\pend (thr P t) h x /\ ¬ pend (thr P t) (j+1) x)->L'.rd t x=L.rd t x)):=by
 have up : ∀ {x},pend (thr P t) (j+1) x->pend (thr P t) h x:=fun {x} ⟨p1,q,q1,q2⟩=>⟨p1,q,by omega,q2⟩;have low : ∀ {x},x<j+1 -> ¬ pend (thr P t) (j+1) x:=fun {x} hx ⟨_,q,q1,q2,_⟩=>by omega
 have lowh : ∀ {x},x<j -> ¬ pend (thr P t) h x:=fun {x} hx ⟨_,q,q1,q2,q3,_⟩=>hno q q1 (by omega) q3;have pj:pend (thr P t) h j:=⟨by rw [hst];decide,j,hhj,Nat.le_refl _,hst,rfl⟩;intro m hm
 induction m with
 | zero=>omega
 | succ m ih =>
   intro hmn;by_cases hmj:m=j
   ·subst hmj;have hmay:a2G 3 (thr P t) (L.t t) m:=by
     refine ⟨?_,fun q hq _=>(ln q).2 ⟨by omega,lowh hq⟩,fun hk=>by cases hk⟩;cases hd:(L.t t).1 m with
     | false=>rfl
     | true=>exact absurd pj ((ln m).1 hd).2
    have h1:(aAt (thr P t) m).1≠1:=by rw [hst];decide
    refine ⟨doA 3 P L t m,Stps.one (.act t m ht (by omega) hmay),?_,?_,?_,?_,?_⟩
    ·unfold doA;simp [hst]
    ·intro u;unfold doA;simp [lb u]
    ·intro u hu;unfold doA;simp [hst,a0c _ _ _ hu]
    ·intro x;unfold doA;dsimp only;rw [a0g];by_cases hx:x=m
     ·subst hx;rw [a0g];simp [hjn,low (Nat.lt_succ_self x)]
     rw [a0c _ _ _ hx,ln x];refine and_congr_right fun _ => ?_;constructor
     ·intro hp;by_cases hlt:x<m+1
      ·exact .inl ⟨hlt,low hlt⟩
      exact .inr ⟨by omega,hp⟩
     rintro (⟨a,b⟩ | ⟨a,b⟩)
     ·exact lowh (by omega)
     exact b
    intro x hx;refine ⟨fun a b c => ?_,fun _=>by unfold doA;simp [hst]⟩;have:x≠m:=fun hh=>h1 (hh▸hx);exact absurd b (lowh (by omega))
   obtain ⟨L',s1,s2,s3,s4,s5,s6⟩:=ih (by omega) (by omega);by_cases hp:pend (thr P t) h m /\ ¬ pend (thr P t) (j+1) m
   ·have hns:(aAt (thr P t) m).1≠2:=fun ha=>hp.2 ⟨hp.1.1,m,by omega,Nat.le_refl _,ha,rfl⟩;have hc:(aAt (thr P t) m).2.1=(aAt (thr P t) j).2.1:=by
     obtain ⟨⟨p1,q,q1,q2,q3,q4⟩,hp2⟩:=hp;rcases Nat.lt_trichotomy q j with h' | h' | h'
     ·exact absurd q3 (hno q q1 h')
     ·subst h';exact q4.symm
     exact absurd ⟨p1,q,h',q2,q3,q4⟩ hp2
    have hmay:a2G 3 (thr P t) (L'.t t) m:=by
     refine ⟨?_,fun q hq hmu=>(s5 q).2 ⟨by omega,.inl ⟨hq,fun hpq => ?_⟩⟩,fun hk=>by cases hk⟩
     ·cases hd:(L'.t t).1 m with
      | false=>rfl
      | true =>
        rcases ((s5 m).1 hd).2 with ⟨a,_⟩ | ⟨_,b⟩
        ·omega
        exact absurd hp.1 b
     obtain ⟨p1,r,r1,r2,r3,r4⟩:=hpq;rcases hmu with hk | h3 | h3 | h3
     ·exact absurd rfl hk
     ·exact hp.1.1 h3
     ·exact p1 h3
     exact hp.2 ⟨hp.1.1,r,r1,by omega,r3,by rw [r4,h3]⟩
    refine ⟨doA 3 P L' t m,s1.tail (.act t m ht (by omega) hmay),?_,?_,?_,?_,?_⟩
    ·unfold doA;simp only [hns,false_and,if_false];exact s2
    ·intro u;unfold doA;simp only [hns,false_and,if_false];exact s3 u
    ·intro u hu;unfold doA;dsimp only;rw [a0c _ _ _ hu];refine ⟨(s4 u hu).1,?_⟩;split
     ·rw [a0c _ _ _ hu];exact (s4 u hu).2
     exact (s4 u hu).2
    ·intro x;unfold doA;dsimp only;rw [a0g];by_cases hx:x=m
     ·subst hx;rw [a0g];simp [hp.2];omega
     rw [a0c _ _ _ hx,s5 x];refine and_congr_right fun _ => ?_;constructor
     ·rintro (⟨a,b⟩ | ⟨a,b⟩)
      ·exact .inl ⟨by omega,b⟩
      exact .inr ⟨by omega,b⟩
     rintro (⟨a,b⟩ | ⟨a,b⟩)
     ·exact .inl ⟨by omega,b⟩
     exact .inr ⟨by omega,b⟩
    intro x hx;by_cases hxm:x=m
    ·subst hxm;refine ⟨fun _ _ _ => ?_,fun hh=>absurd ⟨by omega,hp.1,hp.2⟩ hh⟩;unfold doA;dsimp only;rw [if_pos hx,a0g,a0g];unfold sn;rw [s3 t,s2,hc,a0g];rfl
    have e:(doA 3 P L' t m).rd t x=L'.rd t x:=by
     unfold doA;dsimp only;split
     ·rw [a0g,a0c _ _ _ hxm]
     rfl
    rw [e];exact ⟨fun a b c=>(s6 x hx).1 (by omega) b c,fun hh=>(s6 x hx).2 fun ⟨a,b,c⟩=>hh ⟨by omega,b,c⟩⟩
   refine ⟨L',s1,s2,s3,s4,?_,?_⟩
   ·intro x;rw [s5 x];refine and_congr_right fun _ => ?_;by_cases hx:x=m
    ·subst hx;constructor
     ·rintro (⟨a,b⟩ | ⟨a,b⟩)
      ·omega
      exact .inl ⟨by omega,fun hh=>b (up hh)⟩
     rintro (⟨a,b⟩ | ⟨a,b⟩)
     ·exact .inr ⟨Nat.le_refl _,fun hh=>hp ⟨hh,b⟩⟩
     omega
    constructor
    ·rintro (⟨a,b⟩ | ⟨a,b⟩)
     ·exact .inl ⟨by omega,b⟩
     exact .inr ⟨by omega,b⟩
    rintro (⟨a,b⟩ | ⟨a,b⟩)
    ·exact .inl ⟨by omega,b⟩
    exact .inr ⟨by omega,b⟩
   intro x hx;by_cases hxm:x=m
   ·subst hxm;refine ⟨fun _ b c=>absurd ⟨b,c⟩ hp,fun _=>(s6 x hx).2 fun ⟨a,_⟩=>by omega⟩
   exact ⟨fun a b c=>(s6 x hx).1 (by omega) b c,fun hh=>(s6 x hx).2 fun ⟨a,b,c⟩=>hh ⟨by omega,b,c⟩⟩
theorem RelL.out {P:Pg} {T L:AS} {n h:Nat->Nat} (hR:RelL P T L n h) {t:Nat} (ht:t<P.length) (hb:T.bf t≠[]) :
  ∃ L' h',Stps 3 P L L'/\RelL P (outB T t) L' n h':=by
 obtain ⟨g1,g2⟩:=hR.hn t;cases hbt:T.bf t with
 | nil=>exact absurd hbt hb
 | cons e r =>
   have hbt':=hbt;rw [hR.bf t] at hbt';obtain ⟨j,j1,j2,j3,j4,j5,j6⟩:=b5z hbt';obtain ⟨L',s1,s2,s3,s4,s5,s6⟩:=drain ht j2 g2 j1 j3 j6 (hR.ln t) hR.lb (n t) (by omega) (Nat.le_refl _);have eO:outB T t={ T with bf:=fup T.bf t r,ce:=fup T.ce e.1 e.2 }:=by
    unfold outB;rw [hbt]
   rw [eO];refine ⟨L',fup h t (j+1),s1,?_,hR.dn,?_,?_,s3,?_,?_⟩
   ·intro u;by_cases hu:u=t
    ·subst hu;rw [a0g];omega
    rw [a0c _ _ _ hu];exact hR.hn u
   ·intro u;dsimp only;by_cases hu:u=t
    ·subst hu;rw [a0g,a0g];exact j5
    rw [a0c _ _ _ hu,a0c _ _ _ hu];exact hR.bf u
   ·intro u i;by_cases hu:u=t
    ·subst hu;rw [a0g,s5 i];refine and_congr_right fun hi => ?_;constructor
     ·rintro (⟨_,b⟩ | ⟨a,_⟩)
      ·exact b
      omega
     intro b;exact .inl ⟨hi,b⟩
    rw [a0c _ _ _ hu,(s4 u hu).1];exact hR.ln u i
   ·dsimp only;rw [s2,hR.ce,j4]
   intro u i hi h1;dsimp only;by_cases hu:u=t
   ·subst hu;rw [a0g];have old:=hR.rd u i hi h1;have h6:=s6 i h1;refine ⟨fun hnp => ?_,fun hp => ?_⟩
    ·by_cases hp:pend (thr P u) (h u) i
     ·rw [h6.1 hi hp hnp];obtain ⟨q,q1,q2,q3,q4,q5,q6⟩:=old.2 hp;rw [q6];rcases Nat.lt_trichotomy q j with h' | h' | h'
      ·exact absurd q3 (j6 q q1 h')
      ·subst h';rfl
      exact absurd ⟨by rw [h1];decide,q,h',by omega,q3,q4⟩ hnp
     rw [h6.2 (fun hh=>hp hh.2.1)];exact old.1 hp
    have hp0:pend (thr P u) (h u) i:=by
     obtain ⟨p1,q,q1,q2⟩:=hp;exact ⟨p1,q,by omega,q2⟩
    obtain ⟨q,q1,q2,q3,q4,q5,q6⟩:=old.2 hp0;refine ⟨q,?_,q2,q3,q4,q5,q6⟩;rcases Nat.lt_trichotomy q j with h' | h' | h'
    ·exact absurd q3 (j6 q q1 h')
    ·subst h';obtain ⟨p1,r,r1,r2,r3,r4⟩:=hp;have:r≠i:=fun hh=>by subst hh;rw [h1] at r3;cases r3
     exact absurd r4 (q5 r r1 (by omega) r3)
    exact h'
   rw [a0c _ _ _ hu,(s4 u hu).2];exact hR.rd u i hi h1
theorem b3Z {P:Pg} {T:AS} (h:Stps 2 P AS.init T) : ∃ L n h,Stps 3 P AS.init L/\RelL P T L n h:=by
 induction h with
 | refl=>exact ⟨AS.init,_,_,.refl _,RelL.init P⟩
 | @tail u v h h' ih =>
   obtain ⟨L,n,hh,i1,i2⟩:=ih;cases h' with
   | act t i ht hi hm =>
     obtain ⟨L',s1,s2⟩:=i2.act ht hi hm;exact ⟨L',_,_,i1.trans s1,s2⟩
   | out t ht hk hb =>
     obtain ⟨L',h',s1,s2⟩:=i2.out ht hb;exact ⟨L',_,_,i1.trans s1,s2⟩
theorem Can.loose {P:Pg} {o:List Int} (h:Can 2 P o):Can 3 P o:=by
 obtain ⟨T,h1,h2,rfl⟩:=h;obtain ⟨L,n,hh,i1,i2⟩:=b3Z h1;have hnp : ∀ t,t<P.length -> ∀ i,i<n t -> ¬ pend (thr P t) (hh t) i:=fun t ht i hi ⟨_,q,q1,q2,q3,_⟩=>by
  have:=(h2 t ht).2;rw [i2.bf t] at this;exact a9X this q q1 (by omega) q3
 have hlt : ∀ t,t<P.length -> ∀ i,i<(thr P t).length->i<n t:=fun t ht i hi=>(i2.dn t i).1 ((h2 t ht).1 i hi);refine ⟨L,i1,fun t ht=>⟨fun i hi=>(i2.ln t i).2 ⟨hlt t ht i hi,hnp t ht i (hlt t ht i hi)⟩,i2.lb t⟩,?_⟩;unfold a8c;rw [i2.ce];congr 1;have fc : ∀ (l:List Nat) (f g:Nat->List Int),(∀ x∈l,f x=g x)->l.flatMap f=l.flatMap g:=fun l f g hh=>by
  unfold List.flatMap;rw [List.map_congr_left hh]
 refine fc _ _ _ fun t ht => ?_;rw [List.mem_range] at ht;unfold reads;have fm : ∀ (l:List Nat) (f g:Nat->Option Int),(∀ x∈l,f x=g x)->l.filterMap f=l.filterMap g:=by
  intro l f g
  induction l with
  | nil=>intro _;rfl
  | cons x l ih =>
    intro hh;rw [List.filterMap_cons,List.filterMap_cons,hh x (List.mem_cons_self ..),ih fun y hy=>hh y (List.mem_cons_of_mem _ hy)]
 refine fm _ _ _ fun i hi => ?_;rw [List.mem_range] at hi;by_cases h1:(aAt (thr P t) i).1=1
 ·rw [if_pos h1,if_pos h1,(i2.rd t i (hlt t ht i hi) h1).1 (hnp t ht i (hlt t ht i hi))]
 rw [if_neg h1,if_neg h1]
end Go.Am
