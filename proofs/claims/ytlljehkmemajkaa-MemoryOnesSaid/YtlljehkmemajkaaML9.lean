/- Own text: ML9. -/
import Derived.Test.YtlljehkmemajkaaMP
import Derived.Test.YtlljehkmemajkaaML2
set_option maxRecDepth 100000
set_option maxHeartbeats 1000000
set_option linter.unusedVariables false
set_option linter.unusedSimpArgs false
set_option linter.unusedSectionVars false
namespace Go.Am
open Go
theorem bt {α β:Type} {o:Option α} {f:α->Option β} {v:α} {r:Option β} (h:o=some v) (h2:f v=r):o.bind f=r:=by rw [h];exact h2
theorem cnT {α:Type} {b:Bool} {x y r:α} (h:b=true) (h2:x=r):(bif b then x else y)=r:=by rw [h];exact h2
theorem cnF {α:Type} {b:Bool} {x y r:α} (h:b=false) (h2:y=r):(bif b then x else y)=r:=by rw [h];exact h2
theorem ckT {b:Bool} (h:b=true):ck b=some ():=by subst h;rfl
theorem nkF {b:Bool} (h:b=false):nk b=some ():=by subst h;rfl
theorem bck {β:Type} {b:Bool} {f:Unit->Option β} {r:Option β} (h:b=true) (h2:f ()=r):(ck b).bind f=r:=bt (ckT h) h2
theorem bnk {β:Type} {b:Bool} {f:Unit->Option β} {r:Option β} (h:b=false) (h2:f ()=r):(nk b).bind f=r:=bt (nkF h) h2
abbrev cA3:Cod (Int×Int×Int):=cG (lc (cI .i64) (lc (cI .i64) (l1 (cI .i64))))
abbrev eT (l:List Ac):List D:=enc cA3 l
def eP (P:Pg):List D:=enc (cL 3) (P.map (enc cA3))
abbrev eInts (l:List Int):List D:=enc (cI .i64) l
def eTab (t:List (List Int)):List D:=enc (cL 1) (t.map (enc (cI .i64)))
@[simp] theorem length_eP (P:Pg):(eP P).length=P.length:=by simp [eP]
@[simp] theorem length_eTab (t:List (List Int)):(eTab t).length=t.length:=by simp [eTab]
theorem gt_eP {P:Pg} {i:Nat} {r:List Ac} (h:P[i]?=some r):gt Ar.std (cL 3) (eP P) (i:Int)=some (eT r):=gt_enc_map h
theorem gt_eTab {t:List (List Int)} {i:Nat} {r:List Int} (h:t[i]?=some r):gt Ar.std (cL 1) (eTab t) (i:Int)=some (eInts r):=gt_enc_map h
def ShortP (P:Pg):Prop:=P.length<=5 /\ ∀ t∈P,t.length<=20
def btw (a b c:Int):Bool:=decide (a<=b)&&decide (b<=c)
def vAct (a:Ac):Bool:=bif decide (a.1=1) then btw 0 a.2.1 2&&decide (a.2.2=0) else bif decide (a.1=2) then btw 0 a.2.1 2&&btw 0 a.2.2 3 else decide (a=(3,0,0))
def wk (a:Ac):Bool := !decide (a.1=3)
def ld (a:Ac):Bool:=decide (a.1=1)
def nWk (t:List Ac):Nat:=t.countP wk
def nLd (t:List Ac):Nat:=t.countP ld
def vThr (t:List Ac):Bool:=decide (t.length<=7)&&t.all vAct&&decide (nWk t<=4)
def allW (P:Pg):Nat:=(P.map nWk).sum
def vPrg (P:Pg):Bool:=P.all vThr&&(decide (1<=P.length)&&decide (P.length<=3))&&decide (allW P<=8)
theorem M65_eq (a b c:Int):M65 Ar.std a b c=some (btw a b c):=by
 unfold M65 btw
 simp only [std_zle]
 by_cases h:a<=b <;> simp [h]
theorem M62_eq (a:Ac):M62 Ar.std a.1 a.2.1 a.2.2=some (vAct a):=by
 obtain ⟨x,y,z⟩:=a
 unfold M62 vAct
 simp only [M65_eq,std_zeq]
 by_cases h1:x=1
 ·simp only [h1,decide_true,cond_true,Option.bind_some]
  by_cases h2:btw 0 y 2=true
  ·simp [h2]
  ·simp [h2]
 ·by_cases h2:x=2
  ·subst h2
   simp only [decide_true,cond_true,Option.bind_some]
   by_cases h3:btw 0 y 2=true
   ·simp [h3]
   ·simp [h3]
  ·simp [h1,h2,Ar.std]
theorem M61_eq (a:Ac):M61 Ar.std a.1 a.2.1 a.2.2=some (!vAct a):=by
 unfold M61;rw [M62_eq];rfl
theorem M60_eq {t:List Ac} (ht:t.length<=20):M60 Ar.std (eT t)=some (t.any fun a => !vAct a):=by
 have e:M104 Ar.std (eT t)=some ((t.findIdx? fun a => !vAct a).elim (-1) (fun i=>(i:Int))):=by
  unfold M104
  rw [iter_find t (fun a => !vAct a) (fun i=>Sum.inr (i:Int)) (Sum.inl ()) (fun i a ha hi=>by
   unfold M104L0
   rw [len_enc]
   refine cnT (by simp [hi]) (bt (gt_enc ha) ?_)
   refine bt (M61_eq a) ?_
   simp only [std_wrp,std_zadd]
   rw [wrap1 hi (by omega)]
   cases vAct a <;> rfl) (by
   unfold M104L0
   rw [len_enc]
   exact cnF (by simp) rfl)]
  rw [Option.bind_some]
  exact find_elim _ _
 unfold M60
 rw [e,Option.bind_some]
 simp only [std_zle]
 rw [find_le]
theorem M63_eq {t:List Ac} (ht:t.length<=20):M63 Ar.std (eT t)=some (nWk t:Int):=by
 unfold M63
 have:=iter_pre (step:=M63L0 Ar.std (eT t)) t (fun l=>(nWk l:Int)) (fun s i=>(s,(i:Int))) id (fun i a ha hi=>by
  unfold M63L0
  rw [len_enc]
  refine cnT (by simp [hi]) (bt (gt_enc ha) ?_)
  refine bt (v:=wk a) rfl ?_
  have hb:nWk (t.take i)<=i:=by unfold nWk;exact Nat.le_trans (List.countP_le_length) (by simp;omega)
  simp only [std_wrp,std_zadd]
  rw [wrap1 hi (by omega)]
  unfold nWk at hb ⊢
  rw [List.countP_append,List.countP_singleton]
  cases wk a with
  | true=>simp only [cond_true,Option.bind_some,if_true];rw [i64w _ (by omega) (by omega)];simp
  | false=>simp) (by
  unfold M63L0
  rw [len_enc]
  exact cnF (by simp) rfl)
 rw [show ((0:Int),(0:Int))=((nWk []:Int),((0:Nat):Int)) from rfl,this]
 rfl
theorem M63a_eq {t:List Ac} (ht:t.length<=20):M63a Ar.std (eT t)=some (nLd t:Int):=by
 unfold M63a
 have:=iter_pre (step:=M63aL0 Ar.std (eT t)) t (fun l=>(nLd l:Int)) (fun s i=>(s,(i:Int))) id (fun i a ha hi=>by
  unfold M63aL0
  rw [len_enc]
  refine cnT (by simp [hi]) (bt (gt_enc ha) ?_)
  refine bt (v:=ld a) rfl ?_
  have hb:nLd (t.take i)<=i:=by unfold nLd;exact Nat.le_trans (List.countP_le_length) (by simp;omega)
  simp only [std_wrp,std_zadd]
  rw [wrap1 hi (by omega)]
  unfold nLd at hb ⊢
  rw [List.countP_append,List.countP_singleton]
  cases ld a with
  | true=>simp only [cond_true,Option.bind_some,if_true];rw [i64w _ (by omega) (by omega)];simp
  | false=>simp) (by
  unfold M63aL0
  rw [len_enc]
  exact cnF (by simp) rfl)
 rw [show ((0:Int),(0:Int))=((nLd []:Int),((0:Nat):Int)) from rfl,this]
 rfl
theorem M23_eq {P:Pg} (hP:ShortP P):M23 Ar.std (eP P)=some (vPrg P):=by
 unfold M23
 have key:=iter_relE (step:=M23L0 Ar.std (eP P)) P.length (fun (s:Int) i=>(s,(i:Int))) (fun i s=>s=(allW (P.take i):Int)/\(P.take i).all vThr=true) (fun i x=>x = .inr ()/\P.all vThr=false) (fun s => .inl s)
  (fun i s hi hR=>by
   obtain ⟨rfl,hall⟩:=hR
   have ha:=zp1 hi
   generalize hr:P[i]=r at ha
   have hrm:r∈P:=List.mem_of_getElem? ha
   have hl:=hP.2 r hrm
   have hstep:M23L0 Ar.std (eP P) ((allW (P.take i):Int),(i:Int))=some (bif vThr r then .inl ((allW (P.take i)+nWk r:Nat),((i+1:Nat):Int)) else .inr (.inr ())):=by
    unfold M23L0
    refine cnT (by simp [hi]) (bt (gt_eP ha) ?_)
    have hb:allW (P.take i)<=100:=by
     have : ∀ (Q:Pg),(∀ t∈Q,t.length<=20)->allW Q<=20*Q.length:=by
      intro Q
      induction Q with
      | nil=>intro _;simp [allW]
      | cons t Q ih =>
        intro hQ
        have h1:=ih (fun t ht=>hQ t (by simp [ht]))
        have h2:nWk t<=20:=Nat.le_trans (List.countP_le_length) (hQ t (by simp))
        simp only [allW,List.map_cons,List.sum_cons,List.length_cons] at h1 ⊢
        omega
     have h1:=this (P.take i) (fun t ht=>hP.2 t (List.mem_of_mem_take ht))
     have h2:=hP.1
     simp only [List.length_take] at h1
     omega
    have hn:nWk r<=20:=Nat.le_trans (List.countP_le_length) hl
    have hv:((bif Ar.std.zlt 7 (Ar.std.len (eT r)) then some true else (M60 Ar.std (eT r)).bind fun r27=>bif r27 then some true else (M63 Ar.std (eT r)).bind fun r30=>some (Ar.std.zlt 4 r30):Option Bool))=some (!vThr r):=by
     rw [len_enc,M60_eq hl,M63_eq hl]
     simp only [std_zlt,Option.bind_some,vThr]
     by_cases h1:r.length<=7
     ·rw [cnF (r:=_) (by simp;omega) rfl]
      rw [any_notB]
      simp only [h1,decide_true,Bool.true_and]
      cases r.all vAct with
      | false=>rfl
      | true =>
        simp only [Bool.not_true,cond_false,Bool.true_and,zp3]
        rw [<-decide_not,decide_eq_decide]
        omega
     ·rw [cnT (r:=_) (by simp;omega) rfl]
      simp [h1]
    refine bt hv ?_
    cases vThr r with
    | false=>rfl
    | true =>
      simp only [Bool.not_true,cond_false,cond_true]
      refine bt (M63_eq hl) ?_
      simp only [std_wrp,std_zadd]
      rw [i64w _ (by omega) (by omega),i64w _ (by have:=hP.1;omega) (by have:=hP.1;omega)]
      simp
   cases hv:vThr r with
   | true =>
     rw [hv] at hstep
     refine .inl ⟨_,⟨?_,?_⟩,hstep⟩
     ·rw [take_succ_get ha];simp [allW,List.map_append]
     ·rw [take_succ_get ha,List.all_append,hall];simp [hv]
   | false =>
     rw [hv] at hstep
     refine .inr ⟨_,⟨rfl,?_⟩,hstep⟩
     rw [Bool.eq_false_iff]
     intro h
     rw [List.all_eq_true] at h
     rw [h r hrm] at hv;cases hv)
  (fun s hs=>by
   unfold M23L0
   exact cnF (by simp) rfl) 0 ⟨by simp [allW],by simp⟩
 rcases key with ⟨s,⟨rfl,hall⟩,h⟩ | ⟨i,x,_,⟨rfl,hall⟩,h⟩
 ·rw [List.take_length] at hall h
  refine bt (v := .inl (allW P:Int)) h ?_
  simp only [Sum.elim_inl,M65_eq,Option.bind_some,std_zle]
  unfold vPrg
  rw [hall]
  have e:btw 1 (Ar.std.len (eP P)) 3=(decide (1<=P.length)&&decide (P.length<=3)):=by
   unfold btw
   simp
   congr 1
   ·rw [decide_eq_decide];omega
   ·rw [decide_eq_decide];omega
  rw [e]
  cases (decide (1<=P.length)&&decide (P.length<=3)) with
  | true =>
    simp only [cond_true,Option.bind_some,Bool.true_and,zp3]
    rw [decide_eq_decide];omega
  | false=>rfl
 ·refine bt (v := .inr ()) h ?_
  unfold vPrg
  rw [hall];rfl
theorem M17_eq (P:Pg) (hP:P.length<9223372036854775808) (hl : ∀ t∈P,t.length<9223372036854775808) : ∃ b,M17 Ar.std (eP P)=some b/\(b=false->ShortP P):=by
 unfold M17
 have key:=iter_any (step:=M17L0 Ar.std (eP P)) P (fun t=>decide (20<t.length)) (.inr ()) (.inl ()) (fun i a ha hi=>by
  unfold M17L0
  refine cnT (by simp [hi]) (bt (gt_eP ha) ?_)
  rw [len_enc]
  simp only [std_zlt,std_wrp,std_zadd]
  rw [wrap1 hi (by omega)]
  by_cases h:20<a.length
  ·rw [decide_eq_true h];exact cnT (by simp;omega) rfl
  ·rw [decide_eq_false h];exact cnF (by simp;omega) rfl) (by
  unfold M17L0
  exact cnF (by simp) rfl)
 cases hb:P.any (fun t=>decide (20<t.length)) with
 | true =>
   rw [hb] at key
   exact ⟨true,bt key rfl,fun h=>by cases h⟩
 | false =>
   rw [hb] at key
   refine ⟨decide (5<P.length),bt key (by simp;omega),fun h=>⟨by simpa using h,fun t ht => ?_⟩⟩
   rw [List.any_eq_false] at hb
   have:=hb t ht
   simpa using this
end Go.Am

namespace Go.Am
open Go
abbrev Sta:=Nat->Int
def kd (i:Nat):IntKind:=if i<3 then .u8 else if i<38 then .i8 else .i64
def eS (s:Sta):List D:=(List.range 41).map fun i=>D.int (kd i) (s i)
theorem eS_len (s:Sta):(eS s).length=41:=by simp [eS]
theorem eS_get (s:Sta) {i:Nat} (h:i<41):(eS s)[i]?=some (.int (kd i) (s i)):=by
 unfold eS;rw [List.getElem?_map,List.getElem?_range h];rfl
theorem eS_none (s:Sta) {i:Nat} (h : ¬ i<41):(eS s)[i]?=none:=by
 rw [List.getElem?_eq_none];rw [eS_len];omega
theorem eS_set (s:Sta) {i:Nat} (h:i<41) (v:Int):(eS s).set i (.int (kd i) v)=eS (fup s i v):=by
 apply List.ext_getElem?
 intro j
 by_cases hj:j<41
 ·rw [eS_get _ hj]
  by_cases hij:i=j
  ·subst hij;rw [List.getElem?_set_self (by rw [eS_len];exact h),up_same]
  ·rw [List.getElem?_set_ne hij,eS_get _ hj,up_ne _ _ _ (Ne.symm hij)]
 ·rw [eS_none _ hj,List.getElem?_eq_none];rw [List.length_set,eS_len];omega
theorem eS_inj {s u:Sta} (h:eS s=eS u) (hs : ∀ i,41<=i->s i=0) (hu : ∀ i,41<=i->u i=0):s=u:=by
 funext i
 by_cases hi:i<41
 ·have h1:=eS_get s hi
  rw [h,eS_get u hi] at h1
  simp at h1;exact h1.symm
 ·rw [hs i (by omega),hu i (by omega)]
theorem kd8 {i:Nat} (h:i<3):kd i = .u8:=by unfold kd;rw [if_pos h]
theorem kdi {i:Nat} (h:3<=i) (h2:i<38):kd i = .i8:=by unfold kd;rw [if_neg (by omega),if_pos h2]
theorem kdw {i:Nat} (h:38<=i):kd i = .i64:=by unfold kd;rw [if_neg (by omega),if_neg (by omega)]
theorem gcS (s:Sta) {i:Nat} {k:IntKind} (h:i<41) (hk:kd i=k):gc Ar.std (cI k) (eS s) i=some (s i):=by
 unfold gc
 show ((eS s)[i]?).bind _=_
 rw [eS_get s h,hk]
 simp [cI]
theorem lgetS (s:Sta) {i:Nat} {k:IntKind} (h:i<41) (hk:kd i=k):Ar.std.lget (eS s) i=some (.int k (s i)):=by
 show (eS s)[i]?=_
 rw [eS_get s h,hk]
theorem lsetS (s:Sta) {i:Nat} {k:IntKind} (h:i<41) (hk:kd i=k) (v:Int):Ar.std.lset (eS s) i (.int k v)=eS (fup s i v):=by
 show (eS s).set i _=_
 rw [<-hk,eS_set s h]
theorem lenS (s:Sta):Ar.std.len (eS s)=41:=by show ((eS s).length:Int)=41;rw [eS_len];rfl
theorem onesS (s:Sta):Ar.std.ones (eS s)=true:=by
 show (eS s).all D.isOne=true
 unfold eS
 rw [List.all_map,List.all_eq_true]
 intro i _;rfl
theorem subS (s:Sta):Ar.std.sub (eS s) 0 41=eS s:=by
 show ((eS s).drop (0:Int).toNat).take _=_
 rw [List.take_of_length_le]
 ·rfl
 ·rw [List.length_drop,eS_len];simp
theorem splS (s:Sta) (z:List D) (hz:z.length=41):Ar.std.spl z 0 (eS s)=eS s:=by
 show z.take (0:Int).toNat++eS s++z.drop ((0:Int).toNat+(eS s).length)=eS s
 rw [eS_len,List.drop_eq_nil_of_le (by simp;omega)];simp
theorem gaS (s:Sta) {p:Int} (hp:p=0):ga Ar.std (eS s) p (Int.ofNat 41)=some (eS s):=by
 subst hp
 have e1:Ar.std.sub (eS s) 0 (Ar.std.zadd 0 (Int.ofNat 41))=eS s:=subS s
 unfold ga
 rw [e1,onesS,lenS]
 simp
theorem splS0 (s:Sta) (z:List D) (hz:z.length=41) {p:Int} (hp:p=0):Ar.std.spl z p (eS s)=eS s:=by subst hp;exact splS s z hz
theorem natI {z:Int} {n:Nat} (h:z=n):Ar.std.nat z=n:=by subst h;rfl
theorem bit_get : ∀ (a:Fin 128) (v:Fin 8),bitsStd .and .u8 ((a.val:Int).fdiv (2 ^ (min v.val IntKind.u8.bits))) 1=if a.val.testBit v.val then 1 else 0:=by decide +kernel
theorem bit_set : ∀ (a:Fin 128) (v:Fin 7),bitsStd .or .u8 (a.val:Int) (IntKind.u8.wrap (1*2 ^ (min v.val IntKind.u8.bits)))=((a.val ||| 2 ^ v.val:Nat):Int):=by decide +kernel
theorem bit_all : ∀ (n:Fin 8),IntKind.u8.wrap (IntKind.u8.wrap (1*2 ^ (min n.val IntKind.u8.bits))-1)=((2 ^ n.val-1:Nat):Int):=by decide +kernel
def btI (a:Int) (i:Nat):Bool:=a.toNat.testBit i
theorem getB {a:Int} {v:Nat} (h0:0<=a) (h1:a<128) (hv:v<8):Ar.std.bits .and .u8 (Ar.std.shr .u8 a (v:Int)) 1=if btI a v then 1 else 0:=by
 obtain ⟨n,rfl⟩:=zp9 h0
 have:=bit_get ⟨n,by omega⟩ ⟨v,hv⟩
 exact this
theorem getB1 {a:Int} {v:Nat} (h0:0<=a) (h1:a<128) (hv:v<8):Ar.std.zeq (Ar.std.bits .and .u8 (Ar.std.shr .u8 a (v:Int)) 1) 1=btI a v:=by
 rw [getB h0 h1 hv]
 cases btI a v <;> rfl
theorem getB0 {a:Int} {v:Nat} (h0:0<=a) (h1:a<128) (hv:v<8):Ar.std.zeq (Ar.std.bits .and .u8 (Ar.std.shr .u8 a (v:Int)) 1) 0 = !btI a v:=by
 rw [getB h0 h1 hv]
 cases btI a v <;> rfl
def setI (a:Int) (i:Nat):Int:=((a.toNat ||| 2 ^ i:Nat):Int)
theorem setB {a:Int} {v:Nat} (h0:0<=a) (h1:a<128) (hv:v<7):Ar.std.bits .or .u8 a (Ar.std.shl .u8 1 (v:Int))=setI a v:=by
 obtain ⟨n,rfl⟩:=zp9 h0
 have:=bit_set ⟨n,by omega⟩ ⟨v,hv⟩
 exact this
theorem allB {n:Nat} (hn:n<8):Ar.std.wrp .u8 (Ar.std.zsub (Ar.std.shl .u8 1 (n:Int)) 1)=((2 ^ n-1:Nat):Int):=bit_all ⟨n,hn⟩
theorem btI_set (a:Int) (i j:Nat):btI (setI a i) j=(btI a j||decide (j=i)):=by
 unfold btI setI
 rw [Int.toNat_natCast,Nat.testBit_or,Nat.testBit_two_pow]
 congr 1
 rw [decide_eq_decide];exact eq_comm
theorem setI_lt {a:Int} {i n:Nat} (h0:0<=a) (h:a<(2 ^ n:Nat)) (hi:i<n):0<=setI a i/\setI a i<(2 ^ n:Nat):=by
 unfold setI
 refine ⟨Int.natCast_nonneg _,?_⟩
 have h1:a.toNat<2 ^ n:=by omega
 have h2:2 ^ i<2 ^ n:=Nat.pow_lt_pow_right (by omega) hi
 have:=Nat.or_lt_two_pow h1 h2
 omega
theorem btI_all {a:Int} {n:Nat} (h0:0<=a) (h:a<(2 ^ n:Nat)):a=((2 ^ n-1:Nat):Int) ↔ ∀ i,i<n->btI a i=true:=by
 obtain ⟨m,rfl⟩:=zp9 h0
 have hm:m<2 ^ n:=by omega
 unfold btI
 rw [Int.toNat_natCast]
 constructor
 ·intro e i hi
  have:m=2 ^ n-1:=by omega
  rw [this,Nat.testBit_two_pow_sub_one];simp [hi]
 ·intro hb
  have:m=2 ^ n-1:=by
   apply Nat.eq_of_testBit_eq
   intro i
   rw [Nat.testBit_two_pow_sub_one]
   by_cases hi:i<n
   ·rw [hb i hi];simp [hi]
   ·rw [Nat.testBit_lt_two_pow (Nat.lt_of_lt_of_le hm (Nat.pow_le_pow_right (by omega) (by omega)))];simp [hi]
  omega
theorem btI_ge {a:Int} {n i:Nat} (h0:0<=a) (h:a<(2 ^ n:Nat)) (hi:n<=i):btI a i=false:=by
 unfold btI
 exact Nat.testBit_lt_two_pow (Nat.lt_of_lt_of_le (by omega) (Nat.pow_le_pow_right (by omega) hi))
structure VP (P:Pg):Prop where
 n1:1<=P.length
 n3:P.length<=3
 l7 : ∀ t,(thr P t).length<=7
 w4 : ∀ t,nWk (thr P t)<=4
 w8:allW P<=8
 act : ∀ t i,i<(thr P t).length->vAct (aAt (thr P t) i)=true
theorem thr_none {P:Pg} {t:Nat} (h:P.length<=t):thr P t=[]:=by
 unfold thr;rw [List.getD_eq_getElem?_getD,List.getElem?_eq_none h];rfl
theorem thr_get {P:Pg} {t:Nat} (h:t<P.length):P[t]?=some (thr P t):=by
 unfold thr;rw [List.getD_eq_getElem?_getD,zp1 h];rfl
theorem aAt_get {l:List Ac} {i:Nat} (h:i<l.length):l[i]?=some (aAt l i):=by
 unfold aAt;rw [List.getD_eq_getElem?_getD,zp1 h];rfl
theorem VP.of {P:Pg} (h:vPrg P=true):VP P:=by
 unfold vPrg at h
 simp only [zp4,decide_eq_true_eq,List.all_eq_true] at h
 obtain ⟨⟨h1,h2,h3⟩,h4⟩:=h
 have hv : ∀ t,t<P.length->(thr P t).length<=7/\(∀ a∈thr P t,vAct a=true)/\nWk (thr P t)<=4:=by
  intro t ht
  have:=h1 _ (List.mem_of_getElem? (thr_get ht))
  unfold vThr at this
  simp only [zp4,decide_eq_true_eq,List.all_eq_true] at this
  exact ⟨this.1.1,this.1.2,this.2⟩
 refine ⟨h2,h3,fun t => ?_,fun t => ?_,h4,fun t i hi => ?_⟩
 ·rcases Nat.lt_or_ge t P.length with ht | ht
  ·exact (hv t ht).1
  ·rw [thr_none ht];simp
 ·rcases Nat.lt_or_ge t P.length with ht | ht
  ·exact (hv t ht).2.2
  ·rw [thr_none ht];simp [nWk]
 ·rcases Nat.lt_or_ge t P.length with ht | ht
  ·exact (hv t ht).2.1 _ (List.mem_of_getElem? (aAt_get hi))
  ·rw [thr_none ht] at hi;simp at hi
theorem VP.to {P:Pg} (h:VP P):vPrg P=true:=by
 unfold vPrg
 simp only [zp4,decide_eq_true_eq,List.all_eq_true]
 refine ⟨⟨fun t ht => ?_,h.n1,h.n3⟩,h.w8⟩
 obtain ⟨i,hi,rfl⟩:=List.mem_iff_getElem.1 ht
 have e:P[i]=thr P i:=by have:=thr_get hi;rw [zp1 hi] at this;exact Option.some.inj this
 unfold vThr
 simp only [zp4,decide_eq_true_eq,List.all_eq_true]
 refine ⟨⟨by rw [e];exact h.l7 i,fun a ha => ?_⟩,by rw [e];exact h.w4 i⟩
 rw [e] at ha
 obtain ⟨j,hj,rfl⟩:=List.mem_iff_getElem.1 ha
 have:=h.act i j hj
 have e2:=aAt_get hj
 rw [zp1 hj] at e2
 rw [Option.some.inj e2];exact this
theorem VP.short {P:Pg} (h:VP P):ShortP P:=by
 refine ⟨by have:=h.n3;omega,fun t ht => ?_⟩
 obtain ⟨i,hi,rfl⟩:=List.mem_iff_getElem.1 ht
 have e:P[i]=thr P i:=by have:=thr_get hi;rw [zp1 hi] at this;exact Option.some.inj this
 rw [e];have:=h.l7 i;omega
theorem act_cases {a:Ac} (h:vAct a=true):(a.1=1/\0<=a.2.1/\a.2.1<=2/\a.2.2=0)\/(a.1=2/\0<=a.2.1/\a.2.1<=2/\0<=a.2.2/\a.2.2<=3)\/a=(3,0,0):=by
 unfold vAct at h
 by_cases h1:a.1=1
 ·rw [decide_eq_true h1,cond_true] at h
  simp [btw] at h
  exact .inl ⟨h1,h.1.1,h.1.2,h.2⟩
 ·rw [decide_eq_false h1,cond_false] at h
  by_cases h2:a.1=2
  ·rw [decide_eq_true h2,cond_true] at h
   simp [btw] at h
   exact .inr (.inl ⟨h2,h.1.1,h.1.2,h.2.1,h.2.2⟩)
  ·rw [decide_eq_false h2,cond_false] at h
   exact .inr (.inr (by simpa using h))
def num (P:Pg) (t i:Nat):Nat:=((P.take t).map nLd).sum+nLd ((thr P t).take i)
def bufS (s:Sta) (t:Nat):List (Int×Int):=(List.range (s (38+t)).toNat).map fun j=>(s (14+8*t+2*j),s (14+8*t+2*j+1))
def vw (P:Pg) (s:Sta):AS where
 dn t i:=decide (t<3)&&btI (s t) i
 rd t i:=if (aAt (thr P t) i).1=1 then s (3+num P t i) else 0
 bf t:=if t<3 then bufS s t else []
 ce c:=if 0<=c/\c<=2 then s (11+c.toNat) else 0
def stD (l:List Ac) (a:Int):Nat:=((List.range l.length).filter fun i=>decide ((aAt l i).1=2)&&btI a i).length
structure Wf (P:Pg) (s:Sta):Prop where
 d : ∀ t,t<3->0<=s t/\s t<(2 ^ (thr P t).length:Nat)
 r : ∀ n,n<8->0<=s (3+n)/\s (3+n)<=3
 c : ∀ n,n<3->0<=s (11+n)/\s (11+n)<=3
 b : ∀ t (j:Nat),t<3->(j:Int)<s (38+t)->0<=s (14+8*t+2*j)/\s (14+8*t+2*j)<=2/\0<=s (14+8*t+2*j+1)/\s (14+8*t+2*j+1)<=3
 w : ∀ t,t<3->0<=s (38+t)/\s (38+t)<=(stD (thr P t) (s t):Int)
 z : ∀ i,41<=i->s i=0
def s0:Sta:=fun _=>0
theorem Wf.init (P:Pg):Wf P s0:=by
 refine ⟨fun t _=>⟨Int.le_refl _,?_⟩,fun _ _=>⟨Int.le_refl _,by simp [s0]⟩,fun _ _=>⟨Int.le_refl _,by simp [s0]⟩,fun t j _ h => ?_,fun t _=>⟨Int.le_refl _,Int.natCast_nonneg _⟩,fun _ _=>rfl⟩
 ·show (0:Int)<_
  have:=Nat.two_pow_pos (thr P t).length
  omega
 ·have:(j:Int)<0:=h
  omega
theorem Wf.d7 {P:Pg} (hv:VP P) {s:Sta} (h:Wf P s) {t:Nat} (ht:t<3):0<=s t/\s t<128:=by
 obtain ⟨h1,h2⟩:=h.d t ht
 refine ⟨h1,?_⟩
 have:2 ^ (thr P t).length<=2 ^ 7:=Nat.pow_le_pow_right (by omega) (hv.l7 t)
 omega
theorem stD_le (l:List Ac) (a:Int):stD l a<=nWk l:=by
 unfold stD nWk
 have:(l.countP wk)=((List.range l.length).filter fun i=>wk (aAt l i)).length:=by
  have e:l=(List.range l.length).map (aAt l):=by
   apply List.ext_getElem?
   intro i
   by_cases hi:i<l.length
   ·rw [List.getElem?_map,List.getElem?_range hi,aAt_get hi];rfl
   ·rw [List.getElem?_eq_none (by omega),List.getElem?_eq_none (by simp;omega)]
  conv=>lhs;rw [e]
  rw [List.countP_map,List.countP_eq_length_filter];rfl
 rw [this,<-List.countP_eq_length_filter,<-List.countP_eq_length_filter]
 refine List.countP_mono_left fun i _ h => ?_
 simp only [zp4,decide_eq_true_eq] at h
 unfold wk
 simp [h.1]
theorem Wf.w4 {P:Pg} (hv:VP P) {s:Sta} (h:Wf P s) {t:Nat} (ht:t<3):0<=s (38+t)/\s (38+t)<=4:=by
 obtain ⟨h1,h2⟩:=h.w t ht
 have:=stD_le (thr P t) (s t)
 have:=hv.w4 t
 omega
theorem vw_init (P:Pg):vw P s0=AS.init:=by
 unfold vw AS.init s0 bufS btI
 congr 1
 ·funext t i;simp
 ·funext t i;simp
 ·funext t;simp
 ·funext c;simp
end Go.Am

set_option maxHeartbeats 2000000
namespace Go.Am
open Go
def nxFrom (a:Int):Nat->Nat->Nat
 | 0,i=>i
 | n+1,i=>bif btI a i then nxFrom a n (i+1) else i
def nx (s:Sta) (t:Nat):Nat:=nxFrom (s t) 8 0
theorem nxFrom_spec {a:Int} {n:Nat} (h0:0<=a) (h:a<(2 ^ n:Nat)) : ∀ (k i:Nat),i+k=n+1->(∀ j,j<i->btI a j=true)->i<=n ->
  (∀ j,j<nxFrom a k i->btI a j=true)/\btI a (nxFrom a k i)=false/\nxFrom a k i<=n
 | 0,i,hk,hb,hi=>by omega
 | k+1,i,hk,hb,hi=>by
   unfold nxFrom
   cases hbi:btI a i with
   | false=>rw [cond_false];exact ⟨hb,hbi,hi⟩
   | true =>
     rw [cond_true]
     have hin:i<n:=by
      rcases Nat.lt_or_ge i n with h' | h'
      ·exact h'
      ·rw [btI_ge h0 h h'] at hbi;cases hbi
     refine nxFrom_spec h0 h k (i+1) (by omega) (fun j hj => ?_) (by omega)
     rcases Nat.lt_or_eq_of_le (Nat.le_of_lt_succ hj) with h' | h'
     ·exact hb j h'
     ·rw [h'];exact hbi
theorem iter_nx {S:Type} {step:Int->Option (Int⊕S)} {a:Int} {f:Int->S} (h : ∀ i:Nat,i<8->step (i:Int)=some (bif btI a i then .inl ((i+1:Nat):Int) else .inr (f i))) :
  ∀ (k i:Nat),i+k=8->btI a 7=false->i<=7->iter step (i:Int)=some (f (nxFrom a k i))
 | 0,i,hk,hb,hi=>by omega
 | k+1,i,hk,hb,hi=>by
   unfold nxFrom
   have:=h i (by omega)
   cases hbi:btI a i with
   | false=>rw [hbi] at this;rw [cond_false];exact iter_inr this
   | true =>
     rw [hbi] at this
     rw [iter_inl this,cond_true]
     have:i≠7:=by rintro rfl;rw [hb] at hbi;cases hbi
     exact iter_nx h k (i+1) (by omega) hb (by omega)
section
variable {P:Pg} (hv:VP P) {s:Sta} (hs:Wf P s)
include hv hs
theorem nx_spec {t:Nat} (ht:t<3):(∀ j,j<nx s t->btI (s t) j=true)/\btI (s t) (nx s t)=false/\nx s t<=7:=by
 obtain ⟨h1,h2⟩:=hs.d7 hv ht
 exact nxFrom_spec (n:=7) h1 (by omega) 8 0 rfl (fun j hj=>by omega) (by omega)
theorem M75_eq {t:Nat} (ht:t<3):M75 Ar.std (eS s) (t:Int)=some (nx s t:Int):=by
 obtain ⟨h1,h2⟩:=hs.d7 hv ht
 unfold M75
 refine bck (by rw [lenS];rfl) ?_
 have:=iter_nx (step:=M75L0 Ar.std (eS s) (t:Int)) (a:=s t) (f:=fun z=>z) (fun i hi=>by
  unfold M75L0
  refine bck (by simp) (bck (by simp;omega) ?_)
  have e:Ar.std.nat (Ar.std.zadd 0 (Ar.std.zmul (t:Int) (Int.ofNat 1)))=t:=natI (by simp)
  rw [e]
  refine bt (gcS s (by omega) (kd8 ht)) (bnk (by simp) ?_)
  rw [getB1 h1 h2 hi]
  simp only [std_wrp,std_zadd]
  rw [i64w _ (by omega) (by omega)]
  cases btI (s t) i <;> rfl) 8 0 rfl (btI_ge (n:=7) h1 (by omega) (Nat.le_refl _)) (by omega)
 exact bt this rfl
def overS (P:Pg) (s:Sta):Bool:=(List.range P.length).all fun t=>decide (s t=((2 ^ (thr P t).length-1:Nat):Int)) && !decide (0<s (38+t))
theorem M77_eq:M77 Ar.std (eS s) (eP P)=some (overS P s):=by
 unfold M77
 refine bck (by rw [lenS];rfl) ?_
 have key:=iter_rng (step:=M77L0 Ar.std (eS s) (eP P)) P.length (fun t => !(decide (s t=((2 ^ (thr P t).length-1:Nat):Int)) && !decide (0<s (38+t)))) (.inr ()) (.inl ()) (fun t ht=>by
  have ht3:t<3:=by have:=hv.n3;omega
  have hl:=hv.l7 t
  unfold M77L0
  refine cnT (by simp [ht]) ?_
  have e1:Ar.std.nat (Ar.std.zadd 0 (Ar.std.zmul (t:Int) (Int.ofNat 1)))=t:=natI (by simp)
  have e2:Ar.std.nat (Ar.std.zadd (Ar.std.zadd 0 (Ar.std.zmul (t:Int) (Int.ofNat 1))) (Int.ofNat 38))=38+t:=natI (by simp;omega)
  rw [e1,e2]
  refine bt (v := !(decide (s t=((2 ^ (thr P t).length-1:Nat):Int)) && !decide (0<s (38+t)))) ?_ ?_
  ·refine bck (by simp) (bck (by simp;omega) (bt (gcS s (by omega) (kd8 ht3)) (bt (gt_eP (thr_get ht)) (bnk (by rw [len_enc];simp) ?_))))
   rw [len_enc,allB (by omega)]
   simp only [std_zeq]
   by_cases h:s t=((2 ^ (thr P t).length-1:Nat):Int)
   ·refine cnT (by rw [decide_eq_true h]) (bck (by simp) (bck (by simp;omega) (bt (gcS s (by omega) (kdw (by omega))) ?_)))
    rw [decide_eq_true h];simp
   ·refine cnF (by rw [decide_eq_false h]) ?_
    rw [decide_eq_false h];rfl
  ·simp only [std_wrp,std_zadd]
   rw [i64w _ (by omega) (by omega)]
   cases (!(decide (s t=((2 ^ (thr P t).length-1:Nat):Int)) && !decide (0<s (38+t)))) <;> rfl) (by
  unfold M77L0
  exact cnF (by simp) rfl)
 refine bt key ?_
 unfold overS
 rw [any_notB]
 cases (List.range P.length).all fun t=>decide (s t=((2 ^ (thr P t).length-1:Nat):Int)) && !decide (0<s (38+t)) <;> rfl
theorem overS_iff:overS P s=true↔Fini P (vw P s):=by
 unfold overS Fini
 rw [List.all_eq_true]
 constructor
 ·intro h t ht
  have ht3:t<3:=by have:=hv.n3;omega
  have:=h t (List.mem_range.2 ht)
  simp only [zp4,decide_eq_true_eq,Bool.not_eq_true',decide_eq_false_iff_not] at this
  obtain ⟨h1,h2⟩:=hs.d t ht3
  refine ⟨fun i hi => ?_,?_⟩
  ·show (decide (t<3)&&btI (s t) i)=true
   rw [decide_eq_true ht3,Bool.true_and]
   exact (btI_all h1 h2).1 this.1 i hi
  ·show (if t<3 then bufS s t else [])=[]
   rw [if_pos ht3]
   unfold bufS
   have:(s (38+t)).toNat=0:=by omega
   rw [this];rfl
 ·intro h t ht
  have ht:=List.mem_range.1 ht
  have ht3:t<3:=by have:=hv.n3;omega
  obtain ⟨h1,h2⟩:=hs.d t ht3
  obtain ⟨ha,hb⟩:=h t ht
  simp only [zp4,decide_eq_true_eq,Bool.not_eq_true',decide_eq_false_iff_not]
  refine ⟨(btI_all h1 h2).2 fun i hi => ?_,?_⟩
  ·have:=ha i hi
   change (decide (t<3)&&btI (s t) i)=true at this
   rw [decide_eq_true ht3,Bool.true_and] at this;exact this
  ·change (if t<3 then bufS s t else [])=[] at hb
   rw [if_pos ht3] at hb
   unfold bufS at hb
   rw [List.map_eq_nil_iff,List.range_eq_nil] at hb
   omega
end
theorem nLd_take_le (l:List Ac) (i:Nat):nLd (l.take i)<=nLd l:=by
 unfold nLd;exact (List.take_sublist i l).countP_le
theorem nLd_le_nWk (l:List Ac):nLd l<=nWk l:=by
 unfold nLd nWk
 refine List.countP_mono_left fun a _ h => ?_
 unfold ld wk at *
 simp at h ⊢;omega
theorem take_take_succ {l:List Ac} {i:Nat} (h:i<l.length):nLd (l.take (i+1))=nLd (l.take i)+if (aAt l i).1=1 then 1 else 0:=by
 rw [take_succ_get (aAt_get h)]
 unfold nLd
 rw [List.countP_append,List.countP_singleton]
 unfold ld
 by_cases h:(aAt l i).1=1 <;> simp [h]
def sumLd (P:Pg):Nat:=(P.map nLd).sum
theorem sumLd_take {P:Pg} {t:Nat} (h:t<P.length):sumLd (P.take (t+1))=sumLd (P.take t)+nLd (thr P t):=by
 rw [take_succ_get (thr_get h)];unfold sumLd;simp
theorem sumLd_mono (P:Pg) {t u:Nat} (h:t<=u):sumLd (P.take t)<=sumLd (P.take u):=by
 induction u with
 | zero=>obtain rfl:t=0:=by omega
         exact Nat.le_refl _
 | succ u ih =>
   rcases Nat.lt_or_eq_of_le h with h' | h'
   ·refine Nat.le_trans (ih (by omega)) ?_
    by_cases hu:u<P.length
    ·rw [sumLd_take hu];omega
    ·rw [List.take_of_length_le (by omega),List.take_of_length_le (by omega)];exact Nat.le_refl _
   ·subst h';exact Nat.le_refl _
theorem sumLd_allW (P:Pg):sumLd P<=allW P:=by
 unfold sumLd allW
 induction P with
 | nil=>exact Nat.le_refl _
 | cons t P ih=>simp only [List.map_cons,List.sum_cons];have:=nLd_le_nWk t;omega
theorem num_lt {P:Pg} {t i:Nat} (ht:t<P.length) (hi:i<(thr P t).length) (hl:(aAt (thr P t) i).1=1):num P t i<sumLd P:=by
 have h1:=take_take_succ hi
 rw [if_pos hl] at h1
 have h2:=nLd_take_le (thr P t) (i+1)
 have h3:=sumLd_take ht
 have h4:=sumLd_mono P (show t+1<=P.length by omega)
 rw [List.take_length] at h4
 unfold num
 unfold sumLd at *
 omega
theorem num_inj {P:Pg} {t i u j:Nat} (ht:t<P.length) (hi:i<(thr P t).length) (hl:(aAt (thr P t) i).1=1) (hu:u<P.length) (hj:j<(thr P u).length) (hl':(aAt (thr P u) j).1=1) (h:num P t i=num P u j):t=u/\i=j:=by
 have hlt : ∀ {t u i j},t<u->u<P.length->i<(thr P t).length->(aAt (thr P t) i).1=1->num P t i<num P u j:=by
  intro t u i j htu hu hi hl
  have h1:=take_take_succ hi
  rw [if_pos hl] at h1
  have h2:=nLd_take_le (thr P t) (i+1)
  have h3:=sumLd_take (P:=P) (t:=t) (by omega)
  have h4:=sumLd_mono P (show t+1<=u by omega)
  unfold num
  unfold sumLd at *
  omega
 have hli : ∀ {t i j},i<j->j<(thr P t).length->(aAt (thr P t) i).1=1->num P t i<num P t j:=by
  intro t i j hij hj hl
  have h1:=take_take_succ (l:=thr P t) (i:=i) (by omega)
  rw [if_pos hl] at h1
  have h2:nLd ((thr P t).take (i+1))<=nLd ((thr P t).take j):=by
   have e:(thr P t).take (i+1)=((thr P t).take j).take (i+1):=by rw [List.take_take];congr 1;omega
   rw [e];exact nLd_take_le _ _
  unfold num
  omega
 rcases Nat.lt_trichotomy t u with h' | h' | h'
 ·have:=hlt (j:=j) h' hu hi hl;omega
 ·subst h'
  refine ⟨rfl,?_⟩
  rcases Nat.lt_trichotomy i j with h'' | h'' | h''
  ·have:=hli h'' hj hl;omega
  ·exact h''
  ·have:=hli h'' hi hl';omega
 ·have:=hlt (j:=i) h' ht hj hl';omega
theorem M106_eq {P:Pg} (hv:VP P) {t i:Nat} (ht:t<P.length) (hi:i<(thr P t).length):M106 Ar.std (eP P) (t:Int) (i:Int)=some (num P t i:Int):=by
 unfold M106
 refine bt (gt_eP (thr_get ht)) (bt (sl_encT (by omega)) ?_)
 have hl:=hv.l7 t
 refine bt (M63a_eq (by simp;omega)) ?_
 have e:sl Ar.std (eP P) 0 (t:Int)=some (eP (P.take t)):=by
  unfold eP
  rw [sl_encT (by simp;omega),List.map_take]
 refine bt e ?_
 have hn3:=hv.n3
 have hsm : ∀ u,sumLd (P.take u)<=8:=fun u=>by
  have h1:sumLd (P.take u)<=sumLd P:=by
   rcases Nat.lt_or_ge u P.length with h | h
   ·have:=sumLd_mono P (show u<=P.length by omega);rwa [List.take_length] at this
   ·rw [List.take_of_length_le h];exact Nat.le_refl _
  have h2:=sumLd_allW P
  have h3:=hv.w8
  omega
 have hb:nLd ((thr P t).take i)<=4:=by
  have h1:=nLd_take_le (thr P t) i
  have h2:=nLd_le_nWk (thr P t)
  have h3:=hv.w4 t
  omega
 have key:=iter_pre (step:=M106L0 Ar.std (eP (P.take t))) (P.take t) (fun l=>((nLd ((thr P t).take i)+sumLd l:Nat):Int)) (fun z j=>(z,(j:Int))) id (fun j a ha hj=>by
  have hj':j<t:=by simp at hj;omega
  unfold M106L0
  refine cnT (by rw [List.length_take] at hj;simp;omega) (bt (gt_eP ha) ?_)
  have ha':a=thr P j:=by
   rw [List.getElem?_take_of_lt hj',thr_get (by omega)] at ha;exact (Option.some.inj ha).symm
  subst ha'
  have hl2:=hv.l7 j
  refine bt (M63a_eq (by omega)) ?_
  simp only [std_wrp,std_zadd]
  have h3:=nLd_le_nWk (thr P j)
  have h4:=hv.w4 j
  have h5:sumLd ((P.take t).take j)<=8:=by
   rw [List.take_take]
   have:min j t=j:=by omega
   rw [this];exact hsm j
  rw [i64w _ (by omega) (by omega),i64w _ (by omega) (by omega)]
  unfold sumLd
  simp
  omega) (by
  unfold M106L0
  exact cnF (by simp) rfl)
 rw [show ((nLd ((thr P t).take i):Int),(0:Int))=(((nLd ((thr P t).take i)+sumLd []:Nat):Int),((0:Nat):Int)) from by simp [sumLd]]
 refine bt key ?_
 simp only [id]
 unfold num sumLd
 congr 2
 omega
end Go.Am

namespace Go.Am
open Go
abbrev Z41:List D:=(.int .u8 0)::(.int .u8 0)::(.int .u8 0)::(.int .i8 0)::(.int .i8 0)::(.int .i8 0)::(.int .i8 0)::(.int .i8 0)::(.int .i8 0)::(.int .i8 0)::(.int .i8 0)::(.int .i8 0)::(.int .i8 0)::(.int .i8 0)::(.int .i8 0)::(.int .i8 0)::(.int .i8 0)::(.int .i8 0)::(.int .i8 0)::(.int .i8 0)::(.int .i8 0)::(.int .i8 0)::(.int .i8 0)::(.int .i8 0)::(.int .i8 0)::(.int .i8 0)::(.int .i8 0)::(.int .i8 0)::(.int .i8 0)::(.int .i8 0)::(.int .i8 0)::(.int .i8 0)::(.int .i8 0)::(.int .i8 0)::(.int .i8 0)::(.int .i8 0)::(.int .i8 0)::(.int .i8 0)::(.int .i64 0)::(.int .i64 0)::(.int .i64 0)::[]
theorem Z41_eq:Z41=eS s0:=rfl
theorem Z41_len:Z41.length=41:=rfl
theorem tail_ok (u:Sta):((ga Ar.std (eS u) (Ar.std.zadd 0 (Int.ofNat 0)) (Int.ofNat 41)).bind fun l =>
 (ck (Ar.std.zeq (Ar.std.len l) (Int.ofNat 41))).bind fun _ =>
 (ck (Ar.std.zle (Ar.std.zadd (Ar.std.zadd 0 (Int.ofNat 0)) (Int.ofNat 41)) (Ar.std.len Z41))).bind fun _ =>
 (ck (Ar.std.zeq (Ar.std.len (Ar.std.spl Z41 (Ar.std.zadd 0 (Int.ofNat 0)) l)) (Int.ofNat 41))).bind fun _ =>
 (ck (Ar.std.ones (Ar.std.spl Z41 (Ar.std.zadd 0 (Int.ofNat 0)) l))).bind fun _ =>
 some (Ar.std.spl Z41 (Ar.std.zadd 0 (Int.ofNat 0)) l))=some (eS u):=by
 refine bt (gaS u rfl) ?_
 have e:Ar.std.spl Z41 (Ar.std.zadd 0 (Int.ofNat 0)) (eS u)=eS u:=splS0 u _ Z41_len rfl
 rw [e,lenS,onesS]
 exact bck rfl (bck rfl (bck rfl (bck rfl rfl)))
theorem nat1 (t:Nat):Ar.std.nat (Ar.std.zadd 0 (Ar.std.zmul (t:Int) (Int.ofNat 1)))=t:=natI (by simp)
theorem nat1p (t p:Nat):Ar.std.nat (Ar.std.zadd (Ar.std.zadd 0 (Ar.std.zmul (t:Int) (Int.ofNat 1))) (Int.ofNat p))=p+t:=natI (by simp;omega)
theorem nat1pI {z:Int} (h:0<=z) (p:Nat):Ar.std.nat (Ar.std.zadd (Ar.std.zadd 0 (Ar.std.zmul z (Int.ofNat 1))) (Int.ofNat p))=p+z.toNat:=by
 obtain ⟨n,rfl⟩:=zp9 h
 exact nat1p n p
theorem i8wF : ∀ n:Fin 4,IntKind.i8.wrap (n.val:Int)=n.val:=by decide +kernel
theorem i8w {z:Int} (h0:0<=z) (h1:z<=3):Ar.std.wrp .i8 z=z:=by
 obtain ⟨n,rfl⟩:=zp9 h0
 exact i8wF ⟨n,by omega⟩
theorem lt3 {P:Pg} (hv:VP P) {t:Nat} (ht:t<P.length):t<3:=by have:=hv.n3;omega
def dS (s:Sta) (t i:Nat):Sta:=fup s t (setI (s t) i)
def doS (P:Pg) (s:Sta) (t i:Nat):Sta :=
 if (aAt (thr P t) i).1=1 then fup (dS s t i) (3+num P t i) (s (11+(aAt (thr P t) i).2.1.toNat))
 else if (aAt (thr P t) i).1=2 then fup (dS s t i) (11+(aAt (thr P t) i).2.1.toNat) (aAt (thr P t) i).2.2 else dS s t i
section
variable {P:Pg} (hv:VP P) {s:Sta} (hs:Wf P s) {t i:Nat} (ht:t<P.length) (hi:i<(thr P t).length)
include hv hs ht hi
theorem num8 (hl:(aAt (thr P t) i).1=1):num P t i<8:=by
 have h1:=num_lt ht hi hl
 have h2:=sumLd_allW P
 have h3:=hv.w8
 omega
theorem var3:(aAt (thr P t) i).1=1\/(aAt (thr P t) i).1=2->0<=(aAt (thr P t) i).2.1/\(aAt (thr P t) i).2.1<=2/\((aAt (thr P t) i).1=2->0<=(aAt (thr P t) i).2.2/\(aAt (thr P t) i).2.2<=3):=by
 intro h
 rcases act_cases (hv.act t i hi) with h1 | h1 | h1
 ·exact ⟨h1.2.1,h1.2.2.1,fun h2=>by omega⟩
 ·exact ⟨h1.2.1,h1.2.2.1,fun _=>⟨h1.2.2.2.1,h1.2.2.2.2⟩⟩
 ·rw [h1] at h;simp at h
theorem M76_eq:M76 Ar.std (eS s) (eP P) (t:Int) (i:Int)=some (eS (doS P s t i)):=by
 have ht3:=lt3 hv ht
 have hi7:i<7:=by have:=hv.l7 t;omega
 obtain ⟨d0,d1⟩:=hs.d7 hv ht3
 have hvar:=var3 hv hs ht hi
 have hn8:=num8 hv hs ht hi
 have hget:=aAt_get hi
 unfold M76 doS
 generalize aAt (thr P t) i=a at *
 obtain ⟨x,y,z⟩:=a
 simp only at hvar hn8
 rw [nat1]
 refine bck (by rw [lenS];rfl) (bck (by simp) (bck (by simp;omega) (bt (gcS s (by omega) (kd8 ht3)) (bnk (by simp) (bck (by simp) (bck (by simp;omega) (bt (lgetS s (by omega) (kd8 ht3)) (bt (gt_eP (thr_get ht)) (bt (gt_enc hget) ?_)))))))))
 rw [setB d0 d1 hi7,lsetS s (by omega) (kd8 ht3)]
 refine bt (v:=eS _) ?_ (tail_ok _)
 by_cases h1:x=1
 ·obtain ⟨c0,c1,_⟩:=hvar (.inl h1)
  have hn:=hn8 h1
  rw [if_pos h1]
  refine cnT (by simp [h1]) (bt (M106_eq hv ht hi) (bck (by simp;exact c0) (bck (by simp;omega) ?_)))
  rw [nat1pI c0]
  refine bt (gcS _ (by omega) (kdi (by omega) (by omega))) (bck (by simp) (bck (by simp;omega) ?_))
  rw [nat1p]
  refine bt (lgetS _ (by omega) (kdi (by omega) (by omega))) ?_
  rw [lsetS _ (by omega) (kdi (by omega) (by omega))]
  rw [up_ne _ _ _ (by omega)];rfl
 ·rw [if_neg h1]
  refine cnF (by simp [h1]) (bt (v:=_) ?_ rfl)
  by_cases h2:x=2
  ·obtain ⟨c0,c1,c2⟩:=hvar (.inr h2)
   obtain ⟨c3,c4⟩:=c2 h2
   rw [if_pos h2]
   refine cnT (by simp [h2]) (bck (by simp;exact c0) (bck (by simp;omega) ?_))
   rw [nat1pI c0]
   refine bt (lgetS _ (by omega) (kdi (by omega) (by omega))) ?_
   rw [i8w c3 c4,lsetS _ (by omega) (kdi (by omega) (by omega))];rfl
  ·rw [if_neg h2]
   exact cnF (by simp [h2]) rfl
theorem dS_dn (u j:Nat):(decide (u<3)&&btI (dS s t i u) j)=fup (fun u j=>decide (u<3)&&btI (s u) j) t (fup (fun j=>decide (t<3)&&btI (s t) j) i true) u j:=by
 have ht3:=lt3 hv ht
 unfold dS
 by_cases hu:u=t
 ·subst hu
  rw [up_same,up_same,btI_set]
  unfold fup
  by_cases hj:j=i
  ·simp [hj,ht3]
  ·simp [hj]
 ·rw [up_ne _ _ _ hu,up_ne _ _ _ hu]
theorem rd_up {f:Sta} {v:Int} (hf : ∀ n,n<8->f (3+n)=s (3+n)) (hl:(aAt (thr P t) i).1=1) (u j:Nat) :
  (if (aAt (thr P u) j).1=1 then fup f (3+num P t i) v (3+num P u j) else 0)=fup (vw P s).rd t (fup ((vw P s).rd t) i v) u j:=by
 by_cases hl2:(aAt (thr P u) j).1=1
 ·rw [if_pos hl2]
  have hu:u<P.length:=by
   rcases Nat.lt_or_ge u P.length with h | h
   ·exact h
   ·rw [thr_none h] at hl2;simp [aAt] at hl2
  have hj:j<(thr P u).length:=by
   rcases Nat.lt_or_ge j (thr P u).length with h | h
   ·exact h
   ·unfold aAt at hl2;rw [List.getD_eq_getElem?_getD,List.getElem?_eq_none h] at hl2;simp at hl2
  by_cases hn:num P u j=num P t i
  ·obtain ⟨rfl,rfl⟩:=num_inj hu hj hl2 ht hi hl hn
   rw [up_same,up_same,up_same]
  ·rw [up_ne _ _ _ (by omega)]
   have h8:=num_lt hu hj hl2
   have h2:=sumLd_allW P
   have h3:=hv.w8
   rw [hf _ (by omega)]
   by_cases hut:u=t
   ·subst hut
    rw [up_same,up_ne _ _ _ (by rintro rfl;exact hn rfl)]
    simp only [vw,if_pos hl2]
   ·rw [up_ne _ _ _ hut]
    simp only [vw,if_pos hl2]
 ·rw [if_neg hl2]
  by_cases hut:u=t
  ·subst hut
   rw [up_same,up_ne _ _ _ (by rintro rfl;exact hl2 hl)]
   simp only [vw,if_neg hl2]
  ·rw [up_ne _ _ _ hut]
   simp only [vw,if_neg hl2]
theorem bufS_eq {f:Sta} {u:Nat} (h1:f (38+u)=s (38+u)) (h2 : ∀ j,14<=j->j<38->f j=s j) (hu:u<3):bufS f u=bufS s u:=by
 unfold bufS
 rw [h1]
 apply List.map_congr_left
 intro j hj
 have hw:=hs.w4 hv hu
 have hj:=List.mem_range.1 hj
 rw [h2 _ (by omega) (by omega),h2 _ (by omega) (by omega)]
omit hv hs ht hi in
theorem AS.mkE {a b:AS} (h1:a.dn=b.dn) (h2:a.rd=b.rd) (h3:a.bf=b.bf) (h4:a.ce=b.ce):a=b:=by
 cases a;cases b;simp only at h1 h2 h3 h4;subst h1 h2 h3 h4;rfl
theorem bf_same {f:Sta} (hf : ∀ j,14<=j->f j=s j) (u:Nat):(vw P f).bf u=(vw P s).bf u:=by
 show (if u<3 then bufS f u else [])=(if u<3 then bufS s u else [])
 by_cases hu:u<3
 ·rw [if_pos hu,if_pos hu]
  exact bufS_eq hv hs ht hi (hf _ (by omega)) (fun j h1 _=>hf j h1) hu
 ·rw [if_neg hu,if_neg hu]
theorem rd_same {f:Sta} (hf : ∀ n,n<8->f (3+n)=s (3+n)) (u j:Nat):(vw P f).rd u j=(vw P s).rd u j:=by
 show (if (aAt (thr P u) j).1=1 then f (3+num P u j) else 0)=(if (aAt (thr P u) j).1=1 then s (3+num P u j) else 0)
 split
 ·rename_i hl
  have hu:u<P.length:=by
   rcases Nat.lt_or_ge u P.length with h | h
   ·exact h
   ·rw [thr_none h] at hl;simp [aAt] at hl
  have hj:j<(thr P u).length:=by
   rcases Nat.lt_or_ge j (thr P u).length with h | h
   ·exact h
   ·unfold aAt at hl;rw [List.getD_eq_getElem?_getD,List.getElem?_eq_none h] at hl;simp at hl
  have h8:=num_lt hu hj hl
  have h4:=sumLd_allW P
  have h3:=hv.w8
  exact hf _ (by omega)
 ·rfl
theorem ce_same {f:Sta} (hf : ∀ n,n<3->f (11+n)=s (11+n)) (c:Int):(vw P f).ce c=(vw P s).ce c:=by
 show (if 0<=c/\c<=2 then f (11+c.toNat) else 0)=(if 0<=c/\c<=2 then s (11+c.toNat) else 0)
 by_cases hc:0<=c/\c<=2
 ·rw [if_pos hc,if_pos hc,hf _ (by omega)]
 ·rw [if_neg hc,if_neg hc]
theorem dn_do {f:Sta} (hf : ∀ u,u<3->f u=dS s t i u):(vw P f).dn=fup (vw P s).dn t (fup ((vw P s).dn t) i true):=by
 funext u j
 rw [show fup (vw P s).dn t (fup ((vw P s).dn t) i true) u j=(decide (u<3)&&btI (dS s t i u) j) from (dS_dn hv hs ht hi u j).symm]
 show (decide (u<3)&&btI (f u) j)=_
 by_cases hu3:u<3
 ·rw [hf u hu3]
 ·simp [hu3]
theorem vw_do {k:Nat} (hk:k≠2\/(aAt (thr P t) i).1≠2) (hb:(vw P s).bf t=[]\/(aAt (thr P t) i).1≠1):vw P (doS P s t i)=doA k P (vw P s) t i:=by
 have ht3:=lt3 hv ht
 by_cases h1:(aAt (thr P t) i).1=1
 ·obtain ⟨c0,c1,_⟩:=var3 hv hs ht hi (.inl h1)
  have hn:=num8 hv hs ht hi h1
  have e:doS P s t i=fup (dS s t i) (3+num P t i) (s (11+(aAt (thr P t) i).2.1.toNat)):=by unfold doS;rw [if_pos h1]
  rw [e]
  refine AS.mkE ?_ ?_ ?_ ?_
  ·exact dn_do hv hs ht hi (fun u hu=>by rw [up_ne _ _ _ (by omega)])
  ·have hsn:sn (vw P s) t (aAt (thr P t) i).2.1=s (11+(aAt (thr P t) i).2.1.toNat):=by
    unfold sn
    rcases hb with hb | hb
    ·rw [hb,List.foldl_nil]
     show (if 0<=(aAt (thr P t) i).2.1/\(aAt (thr P t) i).2.1<=2 then _ else _)=_
     rw [if_pos ⟨c0,c1⟩]
    ·exact absurd h1 hb
   simp only [doA,if_pos h1]
   rw [hsn]
   funext u j
   exact rd_up hv hs ht hi (f:=dS s t i) (fun n hn=>by unfold dS;rw [up_ne _ _ _ (by omega)]) h1 u j
  ·simp only [doA]
   rw [if_neg (by omega)]
   funext u
   exact bf_same hv hs ht hi (fun j hj=>by unfold dS;rw [up_ne _ _ _ (by omega),up_ne _ _ _ (by omega)]) u
  ·simp only [doA]
   rw [if_neg (by omega)]
   funext c
   exact ce_same hv hs ht hi (fun n hn=>by unfold dS;rw [up_ne _ _ _ (by omega),up_ne _ _ _ (by omega)]) c
 ·by_cases h2:(aAt (thr P t) i).1=2
  ·obtain ⟨c0,c1,_⟩:=var3 hv hs ht hi (.inr h2)
   have hk2:k≠2:=by rcases hk with h | h;exact h;exact absurd h2 h
   have e:doS P s t i=fup (dS s t i) (11+(aAt (thr P t) i).2.1.toNat) (aAt (thr P t) i).2.2:=by unfold doS;rw [if_neg h1,if_pos h2]
   rw [e]
   refine AS.mkE ?_ ?_ ?_ ?_
   ·exact dn_do hv hs ht hi (fun u hu=>by rw [up_ne _ _ _ (by omega)])
   ·simp only [doA,if_neg h1]
    funext u j
    exact rd_same hv hs ht hi (fun n hn=>by unfold dS;rw [up_ne _ _ _ (by omega),up_ne _ _ _ (by omega)]) u j
   ·simp only [doA]
    rw [if_neg (by omega)]
    funext u
    exact bf_same hv hs ht hi (fun j hj=>by unfold dS;rw [up_ne _ _ _ (by omega),up_ne _ _ _ (by omega)]) u
   ·simp only [doA]
    rw [if_pos ⟨h2,hk2⟩]
    funext c
    show (if 0<=c/\c<=2 then fup (dS s t i) (11+(aAt (thr P t) i).2.1.toNat) (aAt (thr P t) i).2.2 (11+c.toNat) else 0)=_
    by_cases hcv:c=(aAt (thr P t) i).2.1
    ·subst hcv
     rw [if_pos ⟨c0,c1⟩,up_same,up_same]
    ·rw [up_ne _ _ _ hcv]
     show _=(if 0<=c/\c<=2 then s (11+c.toNat) else 0)
     by_cases hc:0<=c/\c<=2
     ·rw [if_pos hc,if_pos hc];unfold dS;rw [up_ne _ _ _ (by omega),up_ne _ _ _ (by omega)]
     ·rw [if_neg hc,if_neg hc]
  ·have e:doS P s t i=dS s t i:=by unfold doS;rw [if_neg h1,if_neg h2]
   rw [e]
   refine AS.mkE ?_ ?_ ?_ ?_
   ·exact dn_do hv hs ht hi (fun u hu=>rfl)
   ·simp only [doA,if_neg h1]
    funext u j
    exact rd_same hv hs ht hi (fun n hn=>by unfold dS;rw [up_ne _ _ _ (by omega)]) u j
   ·simp only [doA]
    rw [if_neg (by omega)]
    funext u
    exact bf_same hv hs ht hi (fun j hj=>by unfold dS;rw [up_ne _ _ _ (by omega)]) u
   ·simp only [doA]
    rw [if_neg (by omega)]
    funext c
    exact ce_same hv hs ht hi (fun n hn=>by unfold dS;rw [up_ne _ _ _ (by omega)]) c
theorem stD_set (hd:btI (s t) i=false):stD (thr P t) (setI (s t) i)=stD (thr P t) (s t)+if (aAt (thr P t) i).1=2 then 1 else 0:=by
 unfold stD
 have e : ∀ n,((List.range n).filter fun j=>decide ((aAt (thr P t) j).1=2)&&btI (setI (s t) i) j).length=((List.range n).filter fun j=>decide ((aAt (thr P t) j).1=2)&&btI (s t) j).length+if i<n/\(aAt (thr P t) i).1=2 then 1 else 0:=by
  intro n
  induction n with
  | zero=>simp
  | succ n ih =>
    have ef : ∀ (g:Nat->Bool),(List.filter g [n]).length=if g n=true then 1 else 0:=by intro g;cases h:g n <;> simp [h]
    rw [List.range_succ,List.filter_append,List.filter_append,List.length_append,List.length_append,ih,ef,ef,btI_set]
    by_cases hn:n=i
    ·subst hn
     by_cases h2:(aAt (thr P t) n).1=2
     ·simp [h2,hd]
     ·simp [h2]
    ·by_cases hlt:i<n
     ·have hlt':i<n+1:=by omega
      by_cases h2:(aAt (thr P t) i).1=2
      ·simp only [h2,hlt,hlt',hn,decide_false,Bool.or_false,and_self,if_true];omega
      ·simp only [h2,hn,decide_false,Bool.or_false,and_false,if_false];omega
     ·have hlt' : ¬ i<n+1:=by omega
      simp only [hlt,hlt',hn,decide_false,Bool.or_false,false_and,if_false];omega
 rw [e]
 by_cases h2:(aAt (thr P t) i).1=2
 ·rw [if_pos ⟨hi,h2⟩,if_pos h2]
 ·rw [if_neg (by simp [h2]),if_neg h2]
theorem Wf.do (hd:btI (s t) i=false):Wf P (doS P s t i):=by
 have ht3:=lt3 hv ht
 obtain ⟨d0,d1⟩:=hs.d t ht3
 have hset:=setI_lt d0 d1 hi
 have hst:=stD_set hv hs ht hi hd
 have hle:stD (thr P t) (s t)<=stD (thr P t) (setI (s t) i):=by rw [hst];omega

 have hD:Wf P (dS s t i):=by
  refine ⟨fun u hu => ?_,fun n hn => ?_,fun n hn => ?_,fun u j hu hj => ?_,fun u hu => ?_,fun j hj => ?_⟩
  ·unfold dS
   by_cases h:u=t
   ·subst h;rw [up_same];exact hset
   ·rw [up_ne _ _ _ h];exact hs.d u hu
  ·unfold dS;rw [up_ne _ _ _ (by omega)];exact hs.r n hn
  ·unfold dS;rw [up_ne _ _ _ (by omega)];exact hs.c n hn
  ·unfold dS at hj ⊢
   rw [up_ne _ _ _ (by omega)] at hj
   rw [up_ne _ _ _ (by omega),up_ne _ _ _ (by omega)]
   exact hs.b u j hu hj
  ·unfold dS
   rw [up_ne _ _ _ (by omega)]
   obtain ⟨w0,w1⟩:=hs.w u hu
   by_cases h:u=t
   ·subst h;rw [up_same];exact ⟨w0,by omega⟩
   ·rw [up_ne _ _ _ h];exact ⟨w0,w1⟩
  ·unfold dS;rw [up_ne _ _ _ (by omega)];exact hs.z j hj
 have hU : ∀ (f:Sta) (p:Nat) (v:Int),Wf P f->3<=p->p<14->0<=v->v<=3->Wf P (fup f p v):=by
  intro f p v hf hp hp2 v0 v3
  refine ⟨fun u hu => ?_,fun n hn => ?_,fun n hn => ?_,fun u j hu hj => ?_,fun u hu => ?_,fun j hj => ?_⟩
  ·rw [up_ne _ _ _ (by omega)];exact hf.d u hu
  ·by_cases h:3+n=p
   ·rw [<-h,up_same];exact ⟨v0,v3⟩
   ·rw [up_ne _ _ _ h];exact hf.r n hn
  ·by_cases h:11+n=p
   ·rw [<-h,up_same];exact ⟨v0,v3⟩
   ·rw [up_ne _ _ _ h];exact hf.c n hn
  ·rw [up_ne _ _ _ (by omega)] at hj
   rw [up_ne _ _ _ (by omega),up_ne _ _ _ (by omega)]
   exact hf.b u j hu hj
  ·rw [up_ne _ _ _ (by omega),up_ne _ _ _ (by omega)];exact hf.w u hu
  ·rw [up_ne _ _ _ (by omega)];exact hf.z j hj
 unfold doS
 split
 ·rename_i h1
  obtain ⟨c0,c1,_⟩:=var3 hv hs ht hi (.inl h1)
  have hn:=num8 hv hs ht hi h1
  have:=hs.c (aAt (thr P t) i).2.1.toNat (by omega)
  exact hU _ _ _ hD (by omega) (by omega) this.1 this.2
 ·split
  ·rename_i h1 h2
   obtain ⟨c0,c1,c2⟩:=var3 hv hs ht hi (.inr h2)
   exact hU _ _ _ hD (by omega) (by omega) (c2 h2).1 (c2 h2).2
  ·exact hD
end
end Go.Am

namespace Go.Am
open Go
theorem bc {β:Type} {b:Bool} {f:Unit->Option β} {r:Option β} (h2:f ()=r) (h:b=true:=by first | (simp;done) | (simp;omega)):(ck b).bind f=r:=bck h h2
theorem gd2 (s:Sta) {p:Nat} {z:Int} (hz:z=p) (h0:3<=p) (h1:p+1<38):gd Ar.std (lc (cI .i8) (l1 (cI .i8))) (eS s) z (Int.ofNat 2)=some (s p,s (p+1)):=by
 subst hz
 have e:Ar.std.sub (eS s) (p:Int) (Ar.std.zadd (p:Int) (Int.ofNat 2))=[.int .i8 (s p),.int .i8 (s (p+1))]:=by
  show ((eS s).drop ((p:Int)).toNat).take (((p:Int)+2).toNat-((p:Int)).toNat)=_
  have e1:((p:Int)+2).toNat-((p:Int)).toNat=2:=by omega
  rw [e1,Int.toNat_natCast]
  apply List.ext_getElem?
  intro i
  by_cases hi:i<2
  ·rw [List.getElem?_take_of_lt hi,List.getElem?_drop,eS_get s (by omega),kdi (by omega) (by omega)]
   rcases (show i=0\/i=1 by omega) with rfl | rfl <;> rfl
  ·rw [List.getElem?_eq_none (by simp;omega),List.getElem?_eq_none (by simp;omega)]
 unfold gd ga
 rw [e,lenS]
 have e2:Ar.std.zle (Ar.std.zadd (p:Int) (Int.ofNat 2)) 41=true:=by simp;omega
 have e3:Ar.std.ones [D.int .i8 (s p),D.int .i8 (s (p+1))]=true:=rfl
 rw [e2,e3]
 simp [lc,l1,cI]
theorem spl2 (s:Sta) {p:Nat} {z:Int} (hz:z=p) (x y:Int) (h0:3<=p) (h1:p+1<38):Ar.std.spl (eS s) z [.int .i8 x,.int .i8 y]=eS (fup (fup s p x) (p+1) y):=by
 subst hz
 show (eS s).take ((p:Int)).toNat++[D.int .i8 x,D.int .i8 y]++(eS s).drop (((p:Int)).toNat+2)=_
 rw [Int.toNat_natCast]
 apply List.ext_getElem?
 intro i
 have hl:((eS s).take p).length=p:=by rw [List.length_take,eS_len];omega
 by_cases hi:i<41
 ·rw [eS_get _ hi]
  by_cases c1:i<p
  ·rw [List.append_assoc,zp7 (by omega),List.getElem?_take_of_lt c1,eS_get s hi,up_ne _ _ _ (by omega),up_ne _ _ _ (by omega)]
  ·by_cases c2:i<p+2
   ·rw [List.append_assoc,zp8 (by omega),hl,zp7 (by simp;omega)]
    rcases (show i=p\/i=p+1 by omega) with rfl | rfl
    ·rw [Nat.sub_self,up_ne _ _ _ (by omega),up_same,kdi (by omega) (by omega)];rfl
    ·rw [show p+1-p=1 by omega,up_same,kdi (by omega) (by omega)];rfl
   ·rw [zp8 (by simp [hl];omega),List.getElem?_drop]
    have:p+2+(i-((eS s).take p++[D.int .i8 x,D.int .i8 y]).length)=i:=by simp [hl];omega
    rw [this,eS_get s hi,up_ne _ _ _ (by omega),up_ne _ _ _ (by omega)]
 ·rw [eS_none _ hi,List.getElem?_eq_none]
  simp [hl,eS_len];omega
def shS (s:Sta) (p:Nat):Sta:=fun j=>if p<=j/\j<p+6 then s (j+2) else s j
theorem splC (s:Sta) {p:Nat} {z a b:Int} (hz:z=p) (ha:a=(p+2:Nat)) (hb:b=(p+8:Nat)) (h0:3<=p) (h1:p+8<=38):Ar.std.spl (eS s) z (Ar.std.sub (eS s) a b)=eS (shS s p):=by
 subst hz ha hb
 have e:Ar.std.sub (eS s) ((p+2:Nat):Int) ((p+8:Nat):Int)=((eS s).drop (p+2)).take 6:=by
  show ((eS s).drop _).take _=_
  rw [Int.toNat_natCast,Int.toNat_natCast];congr 1;omega
 rw [e]
 show (eS s).take ((p:Int)).toNat++((eS s).drop (p+2)).take 6++(eS s).drop (((p:Int)).toNat+(((eS s).drop (p+2)).take 6).length)=_
 have hl6:(((eS s).drop (p+2)).take 6).length=6:=by rw [List.length_take,List.length_drop,eS_len];omega
 have hl:((eS s).take p).length=p:=by rw [List.length_take,eS_len];omega
 rw [Int.toNat_natCast,hl6]
 apply List.ext_getElem?
 intro i
 by_cases hi:i<41
 ·rw [eS_get _ hi]
  unfold shS
  by_cases c1:i<p
  ·rw [List.append_assoc,zp7 (by omega),List.getElem?_take_of_lt c1,eS_get s hi,if_neg (by omega)]
  ·by_cases c2:i<p+6
   ·rw [List.append_assoc,zp8 (by omega),hl,zp7 (by omega),List.getElem?_take_of_lt (by omega),List.getElem?_drop,eS_get s (by omega),if_pos (by omega)]
    rw [show p+2+(i-p)=i+2 by omega,kdi (by omega) (by omega),kdi (by omega) (by omega)]
   ·rw [zp8 (by rw [List.length_append,hl,hl6];omega),List.getElem?_drop]
    have:p+6+(i-((eS s).take p++((eS s).drop (p+2)).take 6).length)=i:=by rw [List.length_append,hl,hl6];omega
    rw [this,eS_get s hi,if_neg (by omega)]
 ·rw [eS_none _ hi,List.getElem?_eq_none]
  rw [List.length_append,List.length_append,hl,hl6,List.length_drop,eS_len];omega
theorem quo7 {t:Nat} (ht:t<3):Ar.std.quo .i64 (Ar.std.zadd (Ar.std.zadd 0 (Ar.std.zmul (t:Int) (Int.ofNat 8))) (Int.ofNat 14)) (Int.ofNat 2)=((7+4*t:Nat):Int):=by
 rcases (show t=0\/t=1\/t=2 by omega) with rfl | rfl | rfl <;> rfl
def outS (s:Sta) (t:Nat):Sta :=
 fup (fup (fup (shS (fup s (11+(s (14+8*t)).toNat) (s (14+8*t+1))) (14+8*t)) (38+t) (s (38+t)-1)) (14+8*t+2*(s (38+t)-1).toNat) 0) (14+8*t+2*(s (38+t)-1).toNat+1) 0
section
variable {P:Pg} (hv:VP P) {s:Sta} (hs:Wf P s) {t:Nat} (ht:t<P.length)
include hv hs ht
theorem out_first (hw:0<s (38+t)):0<=s (14+8*t)/\s (14+8*t)<=2/\0<=s (14+8*t+1)/\s (14+8*t+1)<=3:=by
 have:=hs.b t 0 (lt3 hv ht) (by simpa using hw)
 simpa using this
theorem M178_eq (hw:0<s (38+t)):M178 Ar.std (eS s) (t:Int)=some (eS (outS s t)):=by
 have ht3:=lt3 hv ht
 obtain ⟨c0,c1,v0,v1⟩:=out_first hv hs ht hw
 obtain ⟨w0,w1⟩:=hs.w4 hv ht3
 have hsh:shS (fup s (11+(s (14+8*t)).toNat) (s (14+8*t+1))) (14+8*t) (38+t)=s (38+t):=by
  unfold shS;rw [if_neg (by omega),up_ne _ _ _ (by omega)]
 unfold M178
 rw [quo7 ht3]
 refine bck (by rw [lenS];rfl) (bc (bc (bt (gd2 s (p:=14+8*t) (by simp;omega) (by omega) (by omega)) (bck (by simp;exact c0) (bc ?_)))))
 rw [nat1pI c0]
 refine bt (lgetS s (by omega) (kdi (by omega) (by omega))) ?_
 rw [lsetS s (by omega) (kdi (by omega) (by omega)),lenS]
 refine bc (bc (bc (bc (bc (bc (bc (bc (bc (bc (bc (bc (bc (bc (bc (bc (bc (bc (bc (bc (bc ?_))))))))))))))))))))
 rw [splC _ (p:=14+8*t) (by simp;omega) (by simp;omega) (by simp;omega) (by omega) (by omega),nat1p]
 refine bt (gcS _ (by omega) (kdw (by omega))) (bc (bc (bt (lgetS _ (by omega) (kdw (by omega))) (bc (bc ?_)))))
 rw [hsh]
 have ew:Ar.std.wrp .i64 (Ar.std.zsub (s (38+t)) 1)=s (38+t)-1:=by
  simp only [std_wrp,std_zsub];exact i64w _ (by omega) (by omega)
 rw [ew,lsetS _ (by omega) (kdw (by omega))]
 refine bt (gcS _ (by omega) (kdw (by omega))) ?_
 rw [up_same]
 refine bc (bc (bck (by simp;omega) (bc ?_)))
 rw [lenS]
 obtain ⟨w,hwn⟩:=zp9 (show 0<=s (38+t)-1 by omega)
 have hw4:w<4:=by omega
 refine bck (by rw [hwn];simp;omega) ?_
 rw [spl2 _ (p:=14+8*t+2*w) (by rw [hwn];simp;omega) 0 0 (by omega) (by omega)]
 have:w=(s (38+t)-1).toNat:=by omega
 rw [this]
 exact tail_ok _
theorem outS_get {j:Nat}:outS s t j=if j=14+8*t+2*(s (38+t)-1).toNat+1 then 0 else if j=14+8*t+2*(s (38+t)-1).toNat then 0 else if j=38+t then s (38+t)-1 else
  if 14+8*t<=j/\j<14+8*t+6 then (if j+2=11+(s (14+8*t)).toNat then s (14+8*t+1) else s (j+2)) else (if j=11+(s (14+8*t)).toNat then s (14+8*t+1) else s j):=by
 unfold outS shS fup;rfl
theorem vw_out (hw:0<s (38+t)):vw P (outS s t)=outB (vw P s) t:=by
 have ht3:=lt3 hv ht
 obtain ⟨c0,c1,v0,v1⟩:=out_first hv hs ht hw
 obtain ⟨w0,w1⟩:=hs.w4 hv ht3
 have hbt:(vw P s).bf t=(s (14+8*t),s (14+8*t+1))::(List.range (s (38+t)-1).toNat).map fun j=>(s (14+8*t+2*(j+1)),s (14+8*t+2*(j+1)+1)):=by
  show (if t<3 then bufS s t else [])=_
  rw [if_pos ht3]
  unfold bufS
  have e:(s (38+t)).toNat=(s (38+t)-1).toNat+1:=by omega
  rw [e,List.range_succ_eq_map,List.map_cons,List.map_map];rfl
 have e:outB (vw P s) t=AS.mk (vw P s).dn (vw P s).rd (fup (vw P s).bf t ((List.range (s (38+t)-1).toNat).map fun j=>(s (14+8*t+2*(j+1)),s (14+8*t+2*(j+1)+1)))) (fup (vw P s).ce (s (14+8*t)) (s (14+8*t+1))):=by
  unfold outB;rw [hbt]
 rw [e]
 refine AS.mkE ?_ ?_ ?_ ?_
 ·funext u j
  show (decide (u<3)&&btI (outS s t u) j)=(decide (u<3)&&btI (s u) j)
  by_cases hu:u<3
  ·rw [outS_get hv hs ht,if_neg (by omega),if_neg (by omega),if_neg (by omega),if_neg (by omega),if_neg (by omega)]
  ·simp [hu]
 ·funext u j
  show (if (aAt (thr P u) j).1=1 then outS s t (3+num P u j) else 0)=(if (aAt (thr P u) j).1=1 then s (3+num P u j) else 0)
  split
  ·rename_i hl
   have hu:u<P.length:=by
    rcases Nat.lt_or_ge u P.length with h | h
    ·exact h
    ·rw [thr_none h] at hl;simp [aAt] at hl
   have hj:j<(thr P u).length:=by
    rcases Nat.lt_or_ge j (thr P u).length with h | h
    ·exact h
    ·unfold aAt at hl;rw [List.getD_eq_getElem?_getD,List.getElem?_eq_none h] at hl;simp at hl
   have h8:=num_lt hu hj hl
   have h4:=sumLd_allW P
   have h3:=hv.w8
   rw [outS_get hv hs ht,if_neg (by omega),if_neg (by omega),if_neg (by omega),if_neg (by omega),if_neg (by omega)]
  ·rfl
 ·funext u
  show (if u<3 then bufS (outS s t) u else [])=fup (vw P s).bf t _ u
  by_cases hut:u=t
  ·subst hut
   rw [up_same,if_pos ht3]
   unfold bufS
   have e1:outS s u (38+u)=s (38+u)-1:=by rw [outS_get hv hs ht,if_neg (by omega),if_neg (by omega),if_pos rfl]
   rw [e1]
   apply List.map_congr_left
   intro j hj
   have hj:=List.mem_range.1 hj
   rw [outS_get hv hs ht,outS_get hv hs ht]
   rw [if_neg (by omega),if_neg (by omega),if_neg (by omega),if_pos (by omega),if_neg (by omega),if_neg (by omega),if_neg (by omega),if_neg (by omega),if_pos (by omega),if_neg (by omega)]
   congr 2
  ·rw [up_ne _ _ _ hut]
   show _=(if u<3 then bufS s u else [])
   by_cases hu:u<3
   ·rw [if_pos hu,if_pos hu]
    unfold bufS
    have hw2:=hs.w4 hv hu
    have e1:outS s t (38+u)=s (38+u):=by rw [outS_get hv hs ht,if_neg (by omega),if_neg (by omega),if_neg (by omega),if_neg (by omega),if_neg (by omega)]
    rw [e1]
    apply List.map_congr_left
    intro j hj
    have hj:=List.mem_range.1 hj
    rw [outS_get hv hs ht,outS_get hv hs ht]
    rw [if_neg (by omega),if_neg (by omega),if_neg (by omega),if_neg (by omega),if_neg (by omega),if_neg (by omega),if_neg (by omega),if_neg (by omega),if_neg (by omega),if_neg (by omega)]
   ·rw [if_neg hu,if_neg hu]
 ·funext c
  show (if 0<=c/\c<=2 then outS s t (11+c.toNat) else 0)=fup (vw P s).ce _ _ c
  by_cases hc:c=s (14+8*t)
  ·subst hc
   rw [up_same,if_pos ⟨c0,c1⟩,outS_get hv hs ht,if_neg (by omega),if_neg (by omega),if_neg (by omega),if_neg (by omega),if_pos rfl]
  ·rw [up_ne _ _ _ hc]
   show _=(if 0<=c/\c<=2 then s (11+c.toNat) else 0)
   by_cases h:0<=c/\c<=2
   ·rw [if_pos h,if_pos h,outS_get hv hs ht,if_neg (by omega),if_neg (by omega),if_neg (by omega),if_neg (by omega),if_neg (by omega)]
   ·rw [if_neg h,if_neg h]
theorem Wf.out (hw:0<s (38+t)):Wf P (outS s t):=by
 have ht3:=lt3 hv ht
 obtain ⟨c0,c1,v0,v1⟩:=out_first hv hs ht hw
 obtain ⟨w0,w1⟩:=hs.w4 hv ht3
 refine ⟨fun u hu => ?_,fun n hn => ?_,fun n hn => ?_,fun u j hu hj => ?_,fun u hu => ?_,fun j hj => ?_⟩
 ·rw [outS_get hv hs ht,if_neg (by omega),if_neg (by omega),if_neg (by omega),if_neg (by omega),if_neg (by omega)];exact hs.d u hu
 ·rw [outS_get hv hs ht,if_neg (by omega),if_neg (by omega),if_neg (by omega),if_neg (by omega),if_neg (by omega)];exact hs.r n hn
 ·rw [outS_get hv hs ht,if_neg (by omega),if_neg (by omega),if_neg (by omega),if_neg (by omega)]
  split
  ·exact ⟨v0,v1⟩
  ·exact hs.c n hn
 ·by_cases hut:u=t
  ·subst hut
   have e1:outS s u (38+u)=s (38+u)-1:=by rw [outS_get hv hs ht,if_neg (by omega),if_neg (by omega),if_pos rfl]
   rw [e1] at hj
   have:=hs.b u (j+1) hu (by omega)
   rw [outS_get hv hs ht,outS_get hv hs ht]
   rw [if_neg (by omega),if_neg (by omega),if_neg (by omega),if_pos (by omega),if_neg (by omega),if_neg (by omega),if_neg (by omega),if_neg (by omega),if_pos (by omega),if_neg (by omega)]
   exact this
  ·have hw2:=hs.w4 hv hu
   have e1:outS s t (38+u)=s (38+u):=by rw [outS_get hv hs ht,if_neg (by omega),if_neg (by omega),if_neg (by omega),if_neg (by omega),if_neg (by omega)]
   rw [e1] at hj
   have:=hs.b u j hu hj
   rw [outS_get hv hs ht,outS_get hv hs ht]
   rw [if_neg (by omega),if_neg (by omega),if_neg (by omega),if_neg (by omega),if_neg (by omega),if_neg (by omega),if_neg (by omega),if_neg (by omega),if_neg (by omega),if_neg (by omega)]
   exact this
 ·have e2:outS s t u=s u:=by rw [outS_get hv hs ht,if_neg (by omega),if_neg (by omega),if_neg (by omega),if_neg (by omega),if_neg (by omega)]
  rw [e2]
  obtain ⟨q0,q1⟩:=hs.w u hu
  by_cases hut:u=t
  ·subst hut
   have e1:outS s u (38+u)=s (38+u)-1:=by rw [outS_get hv hs ht,if_neg (by omega),if_neg (by omega),if_pos rfl]
   rw [e1];omega
  ·have e1:outS s t (38+u)=s (38+u):=by rw [outS_get hv hs ht,if_neg (by omega),if_neg (by omega),if_neg (by omega),if_neg (by omega),if_neg (by omega)]
   rw [e1];exact ⟨q0,q1⟩
 ·rw [outS_get hv hs ht,if_neg (by omega),if_neg (by omega),if_neg (by omega),if_neg (by omega),if_neg (by omega)];exact hs.z j hj
end
end Go.Am

namespace Go.Am
open Go
def ldS (P:Pg) (s:Sta) (t i:Nat):Sta:=fup (dS s t i) (3+num P t i) (sn (vw P s) t (aAt (thr P t) i).2.1)
def stS (P:Pg) (s:Sta) (t i:Nat):Sta :=
 fup (fup (fup (dS s t i) (14+8*t+2*(s (38+t)).toNat) (aAt (thr P t) i).2.1) (14+8*t+2*(s (38+t)).toNat+1) (aAt (thr P t) i).2.2) (38+t) (s (38+t)+1)
section
variable {P:Pg} (hv:VP P) {s:Sta} (hs:Wf P s) {t i:Nat} (ht:t<P.length) (hi:i<(thr P t).length)
include hv hs ht hi
theorem sn_eq {c:Int} (c0:0<=c) (c1:c<=2):sn (vw P s) t c=(bufS s t).foldl (fun v e=>if e.1=c then e.2 else v) (s (11+c.toNat)):=by
 unfold sn
 show (if t<3 then bufS s t else []).foldl _ (if 0<=c/\c<=2 then s (11+c.toNat) else 0)=_
 rw [if_pos (lt3 hv ht),if_pos ⟨c0,c1⟩]
theorem buf_get {j:Nat} {e:Int×Int} (h:(bufS s t)[j]?=some e):j<4/\(j:Int)<s (38+t)/\e=(s (14+8*t+2*j),s (14+8*t+2*j+1)):=by
 have hw:=hs.w4 hv (lt3 hv ht)
 unfold bufS at h
 rw [List.getElem?_map] at h
 by_cases hj:j<(s (38+t)).toNat
 ·rw [List.getElem?_range hj] at h
  simp at h
  exact ⟨by omega,by omega,by rw [<-h]⟩
 ·rw [List.getElem?_eq_none (by simp;omega)] at h;simp at h
theorem sn3 {c:Int} (c0:0<=c) (c1:c<=2):0<=sn (vw P s) t c/\sn (vw P s) t c<=3:=by
 rw [sn_eq hv hs ht hi c0 c1]
 have key : ∀ (l:List (Int×Int)) (v:Int),(∀ e∈l,0<=e.2/\e.2<=3)->0<=v/\v<=3->0<=l.foldl (fun v e=>if e.1=c then e.2 else v) v/\l.foldl (fun v e=>if e.1=c then e.2 else v) v<=3:=by
  intro l
  induction l with
  | nil=>intro v _ h;exact h
  | cons e l ih =>
    intro v hl h
    rw [List.foldl_cons]
    refine ih _ (fun e he=>hl e (by simp [he])) ?_
    split
    ·exact hl e (by simp)
    ·exact h
 refine key _ _ (fun e he => ?_) (hs.c _ (by omega))
 obtain ⟨j,hj⟩:=List.mem_iff_getElem?.1 he
 obtain ⟨_,h2,rfl⟩:=buf_get hv hs ht hi hj
 have:=hs.b t j (lt3 hv ht) h2
 exact ⟨this.2.2.1,this.2.2.2⟩
theorem M179_eq (h1:(aAt (thr P t) i).1=1):M179 Ar.std (eS s) (eP P) (t:Int) (i:Int)=some (eS (ldS P s t i)):=by
 have ht3:=lt3 hv ht
 obtain ⟨c0,c1,_⟩:=var3 hv hs ht hi (.inl h1)
 have hn:=num8 hv hs ht hi h1
 obtain ⟨w0,w1⟩:=hs.w4 hv ht3
 have hdo:doS P s t i=fup (dS s t i) (3+num P t i) (s (11+(aAt (thr P t) i).2.1.toNat)):=by unfold doS;rw [if_pos h1]
 unfold M179
 rw [quo7 ht3]
 refine bck (by rw [lenS];rfl) (bt (gaS s rfl) (bt (M76_eq hv hs ht hi) (bck (by rw [lenS];rfl) (bc (bc (bc (bc (bc ?_))))))))
 rw [nat1p]
 refine bt (gcS s (by omega) (kdw (by omega))) (bc (bck (by simp;omega) (bck (by simp;omega) (bc (bc (bc ?_))))))
 have e:Ar.std.spl Z41 (Ar.std.zadd 0 (Int.ofNat 0)) (eS (doS P s t i))=eS (doS P s t i):=splS0 _ _ Z41_len rfl
 rw [e,hdo]
 have hlen:((bufS s t).length:Int)=s (38+t):=by unfold bufS;simp;omega
 have hget:=aAt_get hi
 have hsn:=sn_eq hv hs ht hi c0 c1
 have key:=iter_fold (step:=M179L0 Ar.std (eS s) (eP P) (t:Int) (i:Int) (s (38+t))) (bufS s t) (fun (v:Int) j=>((j:Int),eS (fup (dS s t i) (3+num P t i) v))) (fun v e=>if e.1=(aAt (thr P t) i).2.1 then e.2 else v) (fun v=>eS (fup (dS s t i) (3+num P t i) v))
  (fun j e v hj hjl=>by
   obtain ⟨j4,jw,rfl⟩:=buf_get hv hs ht hi hj
   have hb:=hs.b t j ht3 jw
   unfold M179L0
   generalize aAt (thr P t) i=a at *
   obtain ⟨x,y,z⟩:=a
   rw [quo7 ht3]
   refine cnT (by simp;omega) (bc (bc (bt (gd2 s (p:=14+8*t+2*j) (by simp;omega) (by omega) (by omega)) (bt (gt_eP (thr_get ht)) (bt (gt_enc hget) ?_)))))
   have e2:Ar.std.wrp .i64 (s (14+8*t+2*j))=s (14+8*t+2*j):=by simp only [std_wrp];exact i64w _ (by omega) (by omega)
   rw [e2]
   have e3:Ar.std.wrp .i64 (Ar.std.zadd (j:Int) 1)=((j+1:Nat):Int):=by simp only [std_wrp,std_zadd];exact wrap1 (n:=5) (by omega) (by omega)
   rw [e3]
   by_cases hc:s (14+8*t+2*j)=y
   ·rw [if_pos hc]
    refine bt (v:=eS (fup (dS s t i) (3+num P t i) (s (14+8*t+2*j+1)))) ?_ rfl
    refine cnT (by simp [hc]) (bt (M106_eq hv ht hi) (bc (bc ?_)))
    rw [nat1p]
    refine bt (lgetS _ (by omega) (kdi (by omega) (by omega))) ?_
    rw [lsetS _ (by omega) (kdi (by omega) (by omega)),up_up]
   ·rw [if_neg hc]
    refine bt (v:=eS (fup (dS s t i) (3+num P t i) v)) ?_ rfl
    exact cnF (by simp [hc]) rfl)
  (fun v=>by
   unfold M179L0
   exact cnF (by simp;omega) rfl) (s (11+(aAt (thr P t) i).2.1.toNat))
 refine bt key ?_
 rw [<-hsn]
 exact tail_ok _
theorem vw_ld {k:Nat} (h1:(aAt (thr P t) i).1=1):vw P (ldS P s t i)=doA k P (vw P s) t i:=by
 have hn:=num8 hv hs ht hi h1
 have ht3:=lt3 hv ht
 refine AS.mkE ?_ ?_ ?_ ?_
 ·exact dn_do hv hs ht hi (fun u hu=>by unfold ldS;rw [up_ne _ _ _ (by omega)])
 ·simp only [doA,if_pos h1]
  funext u j
  exact rd_up hv hs ht hi (f:=dS s t i) (fun n hn=>by unfold dS;rw [up_ne _ _ _ (by omega)]) h1 u j
 ·simp only [doA]
  rw [if_neg (by omega)]
  funext u
  exact bf_same hv hs ht hi (fun j hj=>by unfold ldS dS;rw [up_ne _ _ _ (by omega),up_ne _ _ _ (by omega)]) u
 ·simp only [doA]
  rw [if_neg (by omega)]
  funext c
  exact ce_same hv hs ht hi (fun n hn=>by unfold ldS dS;rw [up_ne _ _ _ (by omega),up_ne _ _ _ (by omega)]) c
theorem Wf.dS (hd:btI (s t) i=false):Wf P (dS s t i):=by
 have ht3:=lt3 hv ht
 obtain ⟨d0,d1⟩:=hs.d t ht3
 have hset:=setI_lt d0 d1 hi
 have hst:=stD_set hv hs ht hi hd
 have hle:stD (thr P t) (s t)<=stD (thr P t) (setI (s t) i):=by rw [hst];omega
 refine ⟨fun u hu => ?_,fun n hn => ?_,fun n hn => ?_,fun u j hu hj => ?_,fun u hu => ?_,fun j hj => ?_⟩
 ·unfold Am.dS
  by_cases h:u=t
  ·subst h;rw [up_same];exact hset
  ·rw [up_ne _ _ _ h];exact hs.d u hu
 ·unfold Am.dS;rw [up_ne _ _ _ (by omega)];exact hs.r n hn
 ·unfold Am.dS;rw [up_ne _ _ _ (by omega)];exact hs.c n hn
 ·unfold Am.dS at hj ⊢
  rw [up_ne _ _ _ (by omega)] at hj
  rw [up_ne _ _ _ (by omega),up_ne _ _ _ (by omega)]
  exact hs.b u j hu hj
 ·unfold Am.dS
  rw [up_ne _ _ _ (by omega)]
  obtain ⟨w0,w1⟩:=hs.w u hu
  by_cases h:u=t
  ·subst h;rw [up_same];exact ⟨w0,by omega⟩
  ·rw [up_ne _ _ _ h];exact ⟨w0,w1⟩
 ·unfold Am.dS;rw [up_ne _ _ _ (by omega)];exact hs.z j hj
omit hv hs ht hi in
theorem Wf.upc {P:Pg} {f:Sta} {p:Nat} {v:Int} (hf:Wf P f) (hp:3<=p) (hp2:p<14) (v0:0<=v) (v3:v<=3):Wf P (fup f p v):=by
 refine ⟨fun u hu => ?_,fun n hn => ?_,fun n hn => ?_,fun u j hu hj => ?_,fun u hu => ?_,fun j hj => ?_⟩
 ·rw [up_ne _ _ _ (by omega)];exact hf.d u hu
 ·by_cases h:3+n=p
  ·rw [<-h,up_same];exact ⟨v0,v3⟩
  ·rw [up_ne _ _ _ h];exact hf.r n hn
 ·by_cases h:11+n=p
  ·rw [<-h,up_same];exact ⟨v0,v3⟩
  ·rw [up_ne _ _ _ h];exact hf.c n hn
 ·rw [up_ne _ _ _ (by omega)] at hj
  rw [up_ne _ _ _ (by omega),up_ne _ _ _ (by omega)]
  exact hf.b u j hu hj
 ·rw [up_ne _ _ _ (by omega),up_ne _ _ _ (by omega)];exact hf.w u hu
 ·rw [up_ne _ _ _ (by omega)];exact hf.z j hj
theorem Wf.ld (hd:btI (s t) i=false) (h1:(aAt (thr P t) i).1=1):Wf P (ldS P s t i):=by
 obtain ⟨c0,c1,_⟩:=var3 hv hs ht hi (.inl h1)
 have hn:=num8 hv hs ht hi h1
 obtain ⟨v0,v3⟩:=sn3 hv hs ht hi c0 c1
 exact (Wf.dS hv hs ht hi hd).upc (by omega) (by omega) v0 v3
theorem room (hd:btI (s t) i=false) (h2:(aAt (thr P t) i).1=2):0<=s (38+t)/\s (38+t)<4:=by
 have ht3:=lt3 hv ht
 obtain ⟨w0,w1⟩:=hs.w t ht3
 have hst:=stD_set hv hs ht hi hd
 rw [if_pos h2] at hst
 have:=stD_le (thr P t) (setI (s t) i)
 have:=hv.w4 t
 omega
theorem vw_st (hd:btI (s t) i=false) (h2:(aAt (thr P t) i).1=2):vw P (stS P s t i)=doA 2 P (vw P s) t i:=by
 have ht3:=lt3 hv ht
 obtain ⟨r0,r1⟩:=room hv hs ht hi hd h2
 refine AS.mkE ?_ ?_ ?_ ?_
 ·exact dn_do hv hs ht hi (fun u hu=>by unfold stS;rw [up_ne _ _ _ (by omega),up_ne _ _ _ (by omega),up_ne _ _ _ (by omega)])
 ·simp only [doA]
  rw [if_neg (by omega)]
  funext u j
  exact rd_same hv hs ht hi (fun n hn=>by unfold stS Am.dS;rw [up_ne _ _ _ (by omega),up_ne _ _ _ (by omega),up_ne _ _ _ (by omega),up_ne _ _ _ (by omega)]) u j
 ·simp only [doA]
  rw [if_pos ⟨h2,trivial⟩]
  funext u
  show (if u<3 then bufS (stS P s t i) u else [])=fup (vw P s).bf t _ u
  by_cases hut:u=t
  ·subst hut
   rw [up_same,if_pos ht3]
   have e0:(vw P s).bf u=bufS s u:=by show (if u<3 then _ else _)=_;rw [if_pos ht3]
   rw [e0]
   unfold bufS
   have e1:stS P s u i (38+u)=s (38+u)+1:=by unfold stS;rw [up_same]
   rw [e1]
   have e2:(s (38+u)+1).toNat=(s (38+u)).toNat+1:=by omega
   rw [e2,List.range_succ,List.map_append]
   congr 1
   ·apply List.map_congr_left
    intro j hj
    have hj:=List.mem_range.1 hj
    unfold stS Am.dS
    rw [up_ne _ _ _ (by omega),up_ne _ _ _ (by omega),up_ne _ _ _ (by omega),up_ne _ _ _ (by omega),up_ne _ _ _ (by omega),up_ne _ _ _ (by omega),up_ne _ _ _ (by omega),up_ne _ _ _ (by omega)]
   ·simp only [List.map_cons,List.map_nil]
    unfold stS
    rw [up_ne _ _ _ (by omega),up_ne _ _ _ (by omega),up_same,up_ne _ _ _ (by omega),up_same]
  ·rw [up_ne _ _ _ hut]
   show _=(if u<3 then bufS s u else [])
   by_cases hu:u<3
   ·rw [if_pos hu,if_pos hu]
    have hw2:=hs.w4 hv hu
    unfold bufS
    have e1:stS P s t i (38+u)=s (38+u):=by unfold stS Am.dS;rw [up_ne _ _ _ (by omega),up_ne _ _ _ (by omega),up_ne _ _ _ (by omega),up_ne _ _ _ (by omega)]
    rw [e1]
    apply List.map_congr_left
    intro j hj
    have hj:=List.mem_range.1 hj
    unfold stS Am.dS
    rw [up_ne _ _ _ (by omega),up_ne _ _ _ (by omega),up_ne _ _ _ (by omega),up_ne _ _ _ (by omega),up_ne _ _ _ (by omega),up_ne _ _ _ (by omega),up_ne _ _ _ (by omega),up_ne _ _ _ (by omega)]
   ·rw [if_neg hu,if_neg hu]
 ·simp only [doA]
  rw [if_neg (by omega)]
  funext c
  exact ce_same hv hs ht hi (fun n hn=>by unfold stS Am.dS;rw [up_ne _ _ _ (by omega),up_ne _ _ _ (by omega),up_ne _ _ _ (by omega),up_ne _ _ _ (by omega)]) c
theorem Wf.st (hd:btI (s t) i=false) (h2:(aAt (thr P t) i).1=2):Wf P (stS P s t i):=by
 have ht3:=lt3 hv ht
 obtain ⟨r0,r1⟩:=room hv hs ht hi hd h2
 obtain ⟨c0,c1,c2⟩:=var3 hv hs ht hi (.inr h2)
 obtain ⟨c3,c4⟩:=c2 h2
 have hD:=Wf.dS hv hs ht hi hd
 have hst:=stD_set hv hs ht hi hd
 rw [if_pos h2] at hst
 refine ⟨fun u hu => ?_,fun n hn => ?_,fun n hn => ?_,fun u j hu hj => ?_,fun u hu => ?_,fun j hj => ?_⟩
 ·unfold stS;rw [up_ne _ _ _ (by omega),up_ne _ _ _ (by omega),up_ne _ _ _ (by omega)];exact hD.d u hu
 ·unfold stS;rw [up_ne _ _ _ (by omega),up_ne _ _ _ (by omega),up_ne _ _ _ (by omega)];exact hD.r n hn
 ·unfold stS;rw [up_ne _ _ _ (by omega),up_ne _ _ _ (by omega),up_ne _ _ _ (by omega)];exact hD.c n hn
 ·by_cases hut:u=t
  ·subst hut
   have e1:stS P s u i (38+u)=s (38+u)+1:=by unfold stS;rw [up_same]
   rw [e1] at hj
   by_cases hjl:(j:Int)<s (38+u)
   ·have:=hs.b u j hu hjl
    unfold stS Am.dS
    rw [up_ne _ _ _ (by omega),up_ne _ _ _ (by omega),up_ne _ _ _ (by omega),up_ne _ _ _ (by omega),up_ne _ _ _ (by omega),up_ne _ _ _ (by omega),up_ne _ _ _ (by omega),up_ne _ _ _ (by omega)]
    exact this
   ·have e:j=(s (38+u)).toNat:=by omega
    subst e
    unfold stS
    rw [up_ne _ _ _ (by omega),up_ne _ _ _ (by omega),up_same,up_ne _ _ _ (by omega),up_same]
    exact ⟨c0,c1,c3,c4⟩
  ·have hw2:=hs.w4 hv hu
   have e1:stS P s t i (38+u)=s (38+u):=by unfold stS Am.dS;rw [up_ne _ _ _ (by omega),up_ne _ _ _ (by omega),up_ne _ _ _ (by omega),up_ne _ _ _ (by omega)]
   rw [e1] at hj
   have:=hs.b u j hu hj
   unfold stS Am.dS
   rw [up_ne _ _ _ (by omega),up_ne _ _ _ (by omega),up_ne _ _ _ (by omega),up_ne _ _ _ (by omega),up_ne _ _ _ (by omega),up_ne _ _ _ (by omega),up_ne _ _ _ (by omega),up_ne _ _ _ (by omega)]
   exact this
 ·have e2:stS P s t i u=Am.dS s t i u:=by unfold stS;rw [up_ne _ _ _ (by omega),up_ne _ _ _ (by omega),up_ne _ _ _ (by omega)]
  rw [e2]
  obtain ⟨w0,w1⟩:=hs.w u hu
  by_cases hut:u=t
  ·subst hut
   have e1:stS P s u i (38+u)=s (38+u)+1:=by unfold stS;rw [up_same]
   rw [e1]
   unfold Am.dS
   rw [up_same,hst]
   omega
  ·have e1:stS P s t i (38+u)=s (38+u):=by unfold stS Am.dS;rw [up_ne _ _ _ (by omega),up_ne _ _ _ (by omega),up_ne _ _ _ (by omega),up_ne _ _ _ (by omega)]
   rw [e1]
   unfold Am.dS
   rw [up_ne _ _ _ hut];exact ⟨w0,w1⟩
 ·unfold stS;rw [up_ne _ _ _ (by omega),up_ne _ _ _ (by omega),up_ne _ _ _ (by omega)];exact hD.z j hj
end
noncomputable instance:DecidableEq Sta:=Classical.typeDecidableEq _
abbrev LQ:=List Sta×List Sta
def eM (L:List Sta):List (D×D):=L.map fun s=>(.agg (eS s),.agg [])
def eQ (Q:List Sta):List D:=Q.map fun s => .agg (eS s)
def ZL (L:List Sta):Prop := ∀ s∈L,∀ i,41<=i->s i=0
noncomputable def pu (x:LQ) (l:List Sta):LQ:=l.foldl push x
theorem pu_nil (x:LQ):pu x []=x:=rfl
theorem pu_app (x:LQ) (l m:List Sta):pu x (l++m)=pu (pu x l) m:=by unfold pu;rw [List.foldl_append]
theorem push_len (x:LQ) (n:Sta):(push x n).2.length<=x.2.length+1:=by unfold push;split <;> simp
theorem pu_len (x:LQ) : ∀ l:List Sta,(pu x l).2.length<=x.2.length+l.length
 | []=>Nat.le_refl _
 | n::l=>by
   have h1:=pu_len (push x n) l
   have h2:=push_len x n
   show (pu (push x n) l).2.length<=_
   rw [List.length_cons];omega
theorem push_Z {x:LQ} {n:Sta} (h:ZL x.1) (hn : ∀ i,41<=i->n i=0):ZL (push x n).1:=by
 unfold push
 split
 ·exact h
 ·intro s hs
  rcases List.mem_append.1 hs with hs | hs
  ·exact h s hs
  ·rw [List.mem_singleton.1 hs];exact hn
theorem pu_Z {x:LQ} (h:ZL x.1) : ∀ {l:List Sta},ZL l->ZL (pu x l).1
 | [],_=>h
 | n::l,hl=>pu_Z (x:=push x n) (push_Z h (hl n (by simp))) (fun s hs=>hl s (by simp [hs]))
theorem mget_eM {n:Sta} (hn : ∀ i,41<=i->n i=0) : ∀ {L:List Sta},ZL L->Am.mget (eM L) (.agg (eS n))=if n∈L then some (.agg []) else none
 | [],_=>by simp [eM,Am.mget]
 | s::L,hL=>by
   have ih:=mget_eM hn (L:=L) (fun u hu=>hL u (by simp [hu]))
   unfold eM at ih ⊢
   simp only [List.map_cons,Am.mget]
   by_cases h:s=n
   ·subst h;simp
   ·have : ¬ (D.agg (eS s)=D.agg (eS n)):=fun e=>h (eS_inj (by injection e) (hL s (by simp)) hn)
    rw [if_neg this,ih]
    by_cases hm:n∈L
    ·rw [if_pos hm,if_pos (by simp [hm])]
    ·rw [if_neg hm,if_neg (by simp [hm];exact fun e=>h e.symm)]
theorem mput_eM {n:Sta} (hn : ∀ i,41<=i->n i=0) : ∀ {L:List Sta},ZL L->n∉L->Am.mput (eM L) (.agg (eS n)) (.agg [])=eM (L++[n])
 | [],_,_=>by simp [eM,Am.mput]
 | s::L,hL,hm=>by
   have ih:=mput_eM hn (L:=L) (fun u hu=>hL u (by simp [hu])) (fun h=>hm (by simp [h]))
   unfold eM at ih ⊢
   simp only [List.map_cons,Am.mput,List.cons_append]
   have : ¬ (D.agg (eS s)=D.agg (eS n)):=fun e=>hm (by rw [eS_inj (by injection e) (hL s (by simp)) hn];simp)
   rw [if_neg this,ih]
theorem confS (n:Sta):Ar.std.conf (.int .u8 :: .int .u8 :: .int .u8 :: .int .i8 :: .int .i8 :: .int .i8 :: .int .i8 :: .int .i8 :: .int .i8 :: .int .i8 :: .int .i8 :: .int .i8 :: .int .i8 :: .int .i8 :: .int .i8 :: .int .i8 :: .int .i8 :: .int .i8 :: .int .i8 :: .int .i8 :: .int .i8 :: .int .i8 :: .int .i8 :: .int .i8 :: .int .i8 :: .int .i8 :: .int .i8 :: .int .i8 :: .int .i8 :: .int .i8 :: .int .i8 :: .int .i8 :: .int .i8 :: .int .i8 :: .int .i8 :: .int .i8 :: .int .i8 :: .int .i8 :: .int .i64 :: .int .i64 :: .int .i64::[]) (eS n)=true:=rfl
theorem M96_eq {n:Sta} (hn : ∀ i,41<=i->n i=0) {x:LQ} (hx:ZL x.1) (hq:x.2.length<4294967295) (x3:List D) :
  M96 Ar.std (eS n) (eM x.1) x3 (eQ x.2)=some (eM (push x n).1,eQ (push x n).2):=by
 obtain ⟨L,Q⟩:=x
 simp only at hx hq ⊢
 have hg:=mget_eM hn hx
 unfold M96
 refine bck (by rw [lenS];rfl) ?_
 refine bt (v:=decide (n∈L)) ?_ ?_
 ·refine bt (gaS n rfl) (bck (confS n) ?_)
  unfold lk
  have:Ar.std.mget (eM L) (.agg (eS n))=_:=hg
  rw [this]
  by_cases hm:n∈L
  ·rw [if_pos hm];simp [hm,cU]
  ·rw [if_neg hm];simp [hm]
 ·refine bt (v:=(eM (push (L,Q) n).1,eQ (push (L,Q) n).2)) ?_ rfl
  unfold push
  by_cases hm:n∈L
  ·rw [if_pos hm]
   exact cnT (by simp [hm]) rfl
  ·rw [if_neg hm]
   refine cnF (by simp [hm]) (bt (gaS n rfl) (bck (confS n) (bck (by rw [lenS];rfl) ?_)))
   refine bt (ap_map (fun s=>D.agg (eS s)) Q [n] (by simp;omega)) ?_
   have:Ar.std.mput (eM L) (.agg (eS n)) (.agg [])=_:=mput_eM hn hx hm
   rw [this]
   simp [eQ]
theorem M96a_eq {n:Sta} (hn : ∀ i,41<=i->n i=0) {x:LQ} (hx:ZL x.1) (hq:x.2.length<4294967295) (x3 x5:List D) :
  M96a Ar.std (eS n) (eM x.1) x3 (eQ x.2) x5=some (eM (push x n).1,x5,eQ (push x n).2):=by
 obtain ⟨L,Q⟩:=x
 simp only at hx hq ⊢
 have hg:=mget_eM hn hx
 unfold M96a
 refine bck (by rw [lenS];rfl) ?_
 refine bt (v:=decide (n∈L)) ?_ ?_
 ·refine bt (gaS n rfl) (bck (confS n) ?_)
  unfold lk
  have:Ar.std.mget (eM L) (.agg (eS n))=_:=hg
  rw [this]
  by_cases hm:n∈L
  ·rw [if_pos hm];simp [hm,cU]
  ·rw [if_neg hm];simp [hm]
 ·refine bt (v:=(eM (push (L,Q) n).1,eQ (push (L,Q) n).2)) ?_ rfl
  unfold push
  by_cases hm:n∈L
  ·rw [if_pos hm]
   exact cnT (by simp [hm]) rfl
  ·rw [if_neg hm]
   refine cnF (by simp [hm]) (bt (gaS n rfl) (bck (confS n) (bck (by rw [lenS];rfl) ?_)))
   refine bt (ap_map (fun s=>D.agg (eS s)) Q [n] (by simp;omega)) ?_
   have:Ar.std.mput (eM L) (.agg (eS n)) (.agg [])=_:=mput_eM hn hx hm
   rw [this]
   simp [eQ]
end Go.Am

namespace Go.Am
open Go
theorem iter_pu {T X:Type} {step:T->Option (T⊕X)} (n:Nat) (st:LQ->Nat->T) (g:Nat->List Sta) (c B:Nat) (fin:LQ->X) (hg : ∀ i,i<n->ZL (g i)/\(g i).length<=c)
  (hs : ∀ i x,i<n->ZL x.1->x.2.length<=B+c*i->step (st x i)=some (.inl (st (pu x (g i)) (i+1)))) (he : ∀ x,step (st x n)=some (.inr (fin x))) (x0:LQ) (h0:ZL x0.1) (hB:x0.2.length<=B) :
  iter step (st x0 0)=some (fin (pu x0 ((List.range n).flatMap g))):=by
 obtain ⟨x,⟨rfl,_,_⟩,e⟩:=iter_rel n st (fun i x=>x=pu x0 ((List.range i).flatMap g)/\ZL x.1/\x.2.length<=B+c*i) fin (fun i x hi hR=>by
  obtain ⟨h1,h2,h3⟩:=hR
  refine ⟨_,⟨?_,?_,?_⟩,hs i x hi h2 h3⟩
  ·rw [h1,List.range_succ,List.flatMap_append,pu_app];simp
  ·exact pu_Z h2 (hg i hi).1
  ·have h4:=pu_len x (g i)
   have h5:=(hg i hi).2
   rw [Nat.mul_add];omega) (fun x _=>he x) x0 ⟨by simp [pu_nil],h0,by omega⟩
 exact e
def sc1 (P:Pg) (s:Sta) (t:Nat):List Sta:=if nx s t<(thr P t).length then [doS P s t (nx s t)] else []
noncomputable def sc2b (P:Pg) (s:Sta) (t:Nat):List Sta :=
 if nx s t=(thr P t).length then [] else if (aAt (thr P t) (nx s t)).1=1 then [ldS P s t (nx s t)] else if (aAt (thr P t) (nx s t)).1=2 then [stS P s t (nx s t)] else if s (38+t)=0 then [doS P s t (nx s t)] else []
noncomputable def sc2 (P:Pg) (s:Sta) (t:Nat):List Sta:=(if 0<s (38+t) then [outS s t] else [])++sc2b P s t
def wts (a b:Ac):Bool:=decide (a.1=3)||(decide (b.1=3)||decide (a.2.1=b.2.1))
def fr3 (P:Pg) (s:Sta) (t i:Nat):Bool := !btI (s t) i&&(List.range i).all fun j => !wts (aAt (thr P t) i) (aAt (thr P t) j)||btI (s t) j
def sc3i (P:Pg) (s:Sta) (t i:Nat):List Sta:=bif fr3 P s t i then [doS P s t i] else []
def sc3 (P:Pg) (s:Sta) (t:Nat):List Sta:=(List.range (thr P t).length).flatMap (sc3i P s t)
noncomputable def sck (k:Nat) (P:Pg) (s:Sta) (t:Nat):List Sta:=if k=1 then sc1 P s t else if k=2 then sc2 P s t else sc3 P s t
noncomputable def scs (k:Nat) (P:Pg) (s:Sta):List Sta:=(List.range P.length).flatMap (sck k P s)
theorem ZL_one {s:Sta} (h : ∀ i,41<=i->s i=0):ZL [s]:=fun u hu=>by rw [List.mem_singleton.1 hu];exact h
section
variable {P:Pg} (hv:VP P) {s:Sta} (hs:Wf P s) {t:Nat} (ht:t<P.length)
include hv hs ht
theorem nx_le:nx s t<=(thr P t).length:=by
 have ht3:=lt3 hv ht
 obtain ⟨h1,_,_⟩:=nx_spec hv hs ht3
 obtain ⟨d0,d1⟩:=hs.d t ht3
 rcases Nat.lt_or_ge (thr P t).length (nx s t) with h | h
 ·have:=h1 _ h
  rw [btI_ge d0 d1 (Nat.le_refl _)] at this;cases this
 ·exact h
theorem nx_bit:btI (s t) (nx s t)=false:=(nx_spec hv hs (lt3 hv ht)).2.1
theorem sc1_wf:(∀ u∈sc1 P s t,Wf P u)/\(sc1 P s t).length<=1:=by
 unfold sc1
 split
 ·rename_i h
  exact ⟨fun u hu=>by rw [List.mem_singleton.1 hu];exact Wf.do hv hs ht h (nx_bit hv hs ht),by simp⟩
 ·exact ⟨fun u hu=>(by cases hu),by simp⟩
theorem sc2_wf:(∀ u∈sc2 P s t,Wf P u)/\(sc2 P s t).length<=2:=by
 have hb:=nx_bit hv hs ht
 have hle:=nx_le hv hs ht
 have h1:(∀ u∈sc2b P s t,Wf P u)/\(sc2b P s t).length<=1:=by
  unfold sc2b
  split
  ·exact ⟨fun u hu=>(by cases hu),by simp⟩
  ·rename_i hne
   have hi:nx s t<(thr P t).length:=by omega
   split
   ·rename_i h
    exact ⟨fun u hu=>by rw [List.mem_singleton.1 hu];exact Wf.ld hv hs ht hi hb h,by simp⟩
   ·split
    ·rename_i h
     exact ⟨fun u hu=>by rw [List.mem_singleton.1 hu];exact Wf.st hv hs ht hi hb h,by simp⟩
    ·split
     ·exact ⟨fun u hu=>by rw [List.mem_singleton.1 hu];exact Wf.do hv hs ht hi hb,by simp⟩
     ·exact ⟨fun u hu=>(by cases hu),by simp⟩
 unfold sc2
 split
 ·rename_i hw
  refine ⟨fun u hu => ?_,by have:=h1.2;simp;omega⟩
  rcases List.mem_append.1 hu with hu | hu
  ·rw [List.mem_singleton.1 hu];exact Wf.out hv hs ht hw
  ·exact h1.1 u hu
 ·exact ⟨fun u hu=>h1.1 u (by simpa using hu),by have:=h1.2;simp;omega⟩
theorem sc3i_wf {i:Nat} (hi:i<(thr P t).length):(∀ u∈sc3i P s t i,Wf P u)/\(sc3i P s t i).length<=1:=by
 unfold sc3i
 cases h:fr3 P s t i with
 | false=>exact ⟨fun u hu=>(by cases hu),by simp⟩
 | true =>
   unfold fr3 at h
   simp only [zp4,Bool.not_eq_true'] at h
   exact ⟨fun u hu=>by rw [List.mem_singleton.1 hu];exact Wf.do hv hs ht hi h.1,by simp⟩
theorem flat_len {n c:Nat} {g:Nat->List Sta} (h : ∀ i,i<n->(g i).length<=c):((List.range n).flatMap g).length<=n*c:=by
 induction n with
 | zero=>simp
 | succ n ih =>
   rw [List.range_succ,List.flatMap_append,List.length_append,Nat.succ_mul]
   have:=ih (fun i hi=>h i (by omega))
   have:=h n (by omega)
   simp only [List.flatMap_cons,List.flatMap_nil,List.append_nil];omega
theorem sc3_wf:(∀ u∈sc3 P s t,Wf P u)/\(sc3 P s t).length<=7:=by
 unfold sc3
 refine ⟨fun u hu => ?_,?_⟩
 ·obtain ⟨i,hi,hu⟩:=List.mem_flatMap.1 hu
  exact (sc3i_wf hv hs ht (List.mem_range.1 hi)).1 u hu
 ·have:=flat_len hv hs ht (n:=(thr P t).length) (c:=1) (g:=sc3i P s t) (fun i hi=>(sc3i_wf hv hs ht hi).2)
  have:=hv.l7 t
  omega
theorem sck_wf (k:Nat):(∀ u∈sck k P s t,Wf P u)/\(sck k P s t).length<=7:=by
 unfold sck
 split
 ·exact ⟨(sc1_wf hv hs ht).1,by have:=(sc1_wf hv hs ht).2;omega⟩
 ·split
  ·exact ⟨(sc2_wf hv hs ht).1,by have:=(sc2_wf hv hs ht).2;omega⟩
  ·exact sc3_wf hv hs ht
end
section
variable {P:Pg} (hv:VP P) {s:Sta} (hs:Wf P s)
include hv hs
theorem scs_wf (k:Nat):(∀ u∈scs k P s,Wf P u)/\(scs k P s).length<=21:=by
 unfold scs
 refine ⟨fun u hu => ?_,?_⟩
 ·obtain ⟨t,ht,hu⟩:=List.mem_flatMap.1 hu
  exact (sck_wf hv hs (List.mem_range.1 ht) k).1 u hu
 ·have h1:=flat_len hv hs (t:=0) hv.n1 (n:=P.length) (c:=7) (g:=sck k P s) (fun i hi=>(sck_wf hv hs hi k).2)
  have:=hv.n3
  omega
theorem wrap5 {t:Nat} (h:t<100):Ar.std.wrp .i64 (Ar.std.zadd (t:Int) 1)=((t+1:Nat):Int):=by
 simp only [std_wrp,std_zadd];exact wrap1 (n:=100) h (by omega)
theorem M176_eq {x:LQ} (hx:ZL x.1) (hq:x.2.length<=1000000):M176 Ar.std (eP P) (eS s) (eM x.1) (eQ x.2)=some (eM (pu x (scs 1 P s)).1,eQ (pu x (scs 1 P s)).2):=by
 unfold M176
 refine bck (by rw [lenS];rfl) ?_
 have key:=iter_pu (step:=M176L0 Ar.std (eP P) (eS s)) P.length (fun x t=>((t:Int),eM x.1,eQ x.2)) (sck 1 P s) 7 1000000 (fun x=>(eM x.1,eQ x.2))
  (fun t ht=>⟨fun u hu=>((sck_wf hv hs ht 1).1 u hu).z,(sck_wf hv hs ht 1).2⟩)
  (fun t x ht hx hq=>by
   have ht3:=lt3 hv ht
   unfold M176L0
   refine cnT (by simp [ht]) (bt (gaS s rfl) (bt (M75_eq hv hs ht3) (bt (gt_eP (thr_get ht)) ?_)))
   rw [wrap5 hv hs (by omega),len_enc]
   refine bt (v:=(eM (pu x (sck 1 P s t)).1,eQ (pu x (sck 1 P s t)).2)) ?_ rfl
   have hsc:sck 1 P s t=sc1 P s t:=by unfold sck;rw [if_pos rfl]
   rw [hsc]
   unfold sc1
   by_cases hi:nx s t<(thr P t).length
   ·rw [if_pos hi]
    refine cnT (by simp [hi]) (bt (M76_eq hv hs ht hi) ?_)
    exact bt (M96_eq (Wf.do hv hs ht hi (nx_bit hv hs ht)).z hx (by omega) _) rfl
   ·rw [if_neg hi]
    exact cnF (by simp;omega) rfl) (fun x=>by
   unfold M176L0
   exact cnF (by simp) rfl) x hx hq
 exact bt key rfl
theorem M177_eq {x:LQ} (hx:ZL x.1) (hq:x.2.length<=1000000):M177 Ar.std (eP P) (eS s) (eM x.1) (eQ x.2)=some (eM (pu x (scs 2 P s)).1,eQ (pu x (scs 2 P s)).2):=by
 unfold M177
 refine bck (by rw [lenS];rfl) ?_
 have key:=iter_pu (step:=M177L0 Ar.std (eP P) (eS s)) P.length (fun x t=>((t:Int),eM x.1,eQ x.2)) (sck 2 P s) 7 1000000 (fun x=>(eM x.1,eQ x.2))
  (fun t ht=>⟨fun u hu=>((sck_wf hv hs ht 2).1 u hu).z,(sck_wf hv hs ht 2).2⟩)
  (fun t x ht hx hq=>by
   have ht3:=lt3 hv ht
   have hb:=nx_bit hv hs ht
   have hle:=nx_le hv hs ht
   obtain ⟨w0,w1⟩:=hs.w4 hv ht3
   have hsc:sck 2 P s t=(if 0<s (38+t) then [outS s t] else [])++sc2b P s t:=by unfold sck sc2;rw [if_neg (by omega),if_pos rfl]
   unfold M177L0
   refine cnT (by simp [ht]) ?_
   rw [wrap5 hv hs (by omega)]
   refine bt (v:=(eM (pu x (sck 2 P s t)).1,eQ (pu x (sck 2 P s t)).2)) ?_ rfl
   rw [nat1p]
   refine bc (bc (bt (gcS s (by omega) (kdw (by omega))) ?_))
   obtain ⟨y,hy⟩ : ∃ y,pu x (if 0<s (38+t) then [outS s t] else [])=y:=⟨_,rfl⟩
   have hyZ:ZL y.1:=by
    rw [<-hy]
    split
    ·rename_i hw;exact pu_Z hx (ZL_one (Wf.out hv hs ht hw).z)
    ·exact hx
   have hyq:y.2.length<=x.2.length+1:=by
    rw [<-hy]
    split
    ·exact pu_len _ _
    ·exact Nat.le_succ _
   refine bt (v:=(eM y.1,eQ y.2)) ?_ ?_
   ·rw [<-hy]
    by_cases hw:0<s (38+t)
    ·rw [if_pos hw]
     refine cnT (by simp [hw]) (bt (gaS s rfl) (bt (M178_eq hv hs ht hw) ?_))
     exact bt (M96_eq (Wf.out hv hs ht hw).z hx (by omega) _) rfl
    ·rw [if_neg hw]
     exact cnF (by simp;omega) rfl
   rw [hsc,pu_app,hy]
   refine bt (gaS s rfl) (bt (M75_eq hv hs ht3) (bt (gt_eP (thr_get ht)) ?_))
   rw [len_enc]
   by_cases he:nx s t=(thr P t).length
   ·refine cnT (by simp [he]) ?_
    unfold sc2b
    rw [if_pos he];rfl
   ·refine cnF (by simp;omega) ?_
    have hi:nx s t<(thr P t).length:=by omega
    have hi7:nx s t<7:=by have:=hv.l7 t;omega
    obtain ⟨⟨ax,ay,az⟩,hA⟩ : ∃ a,aAt (thr P t) (nx s t)=a:=⟨_,rfl⟩
    have hget:=aAt_get hi
    rw [hA] at hget
    have hsb:sc2b P s t=if ax=1 then [ldS P s t (nx s t)] else if ax=2 then [stS P s t (nx s t)] else if s (38+t)=0 then [doS P s t (nx s t)] else []:=by
     unfold sc2b;rw [if_neg he,hA]
    refine bt (gt_enc hget) ?_
    rw [hsb]
    refine bt (v:=(eM (pu y (if ax=1 then [ldS P s t (nx s t)] else if ax=2 then [stS P s t (nx s t)] else if s (38+t)=0 then [doS P s t (nx s t)] else [])).1,eQ (pu y (if ax=1 then [ldS P s t (nx s t)] else if ax=2 then [stS P s t (nx s t)] else if s (38+t)=0 then [doS P s t (nx s t)] else [])).2)) ?_ rfl
    by_cases h1:ax=1
    ·have h1':(aAt (thr P t) (nx s t)).1=1:=by rw [hA];exact h1
     rw [if_pos h1]
     refine cnT (by simp [h1]) (bt (M179_eq hv hs ht hi h1') ?_)
     exact bt (M96_eq (Wf.ld hv hs ht hi hb h1').z hyZ (by omega) _) rfl
    ·rw [if_neg h1]
     refine cnF (by simp [h1]) ?_
     by_cases h2:ax=2
     ·have h2':(aAt (thr P t) (nx s t)).1=2:=by rw [hA];exact h2
      obtain ⟨r0,r1⟩:=room hv hs ht hi hb h2'
      obtain ⟨c0,c1,c2⟩:=var3 hv hs ht hi (.inr h2')
      obtain ⟨c3,c4⟩:=c2 h2'
      rw [hA] at c0 c1 c3 c4
      simp only at c0 c1 c3 c4
      obtain ⟨d0,d1⟩:=hs.d7 hv ht3
      rw [if_pos h2]
      refine bt (v:=(eM (pu y [stS P s t (nx s t)]).1,eQ (pu y [stS P s t (nx s t)]).2)) ?_ rfl
      refine cnT (by simp [h2]) ?_
      have e:Ar.std.spl Z41 (Ar.std.zadd 0 (Int.ofNat 0)) (eS s)=eS s:=splS0 _ _ Z41_len rfl
      rw [e,nat1]
      refine bck (by rw [lenS];rfl) (bc (bc (bc (bt (gcS s (by omega) (kd8 ht3)) (bnk (by simp) (bc (bc (bt (lgetS s (by omega) (kd8 ht3)) (bc (bc ?_))))))))))
      rw [setB d0 d1 hi7,lsetS s (by omega) (kd8 ht3)]
      refine bt (gcS _ (by omega) (kdw (by omega))) ?_
      rw [up_ne _ _ _ (by omega),lenS,i8w (by omega) (by omega),i8w c3 c4]
      obtain ⟨w,hw⟩:=zp9 r0
      have hw4:w<4:=by omega
      refine bc (bc (bck (by simp;omega) (bck (by simp;omega) (bck (by rw [hw];simp;omega) (bc (bc ?_))))))
      rw [spl2 _ (p:=14+8*t+2*w) (by rw [hw];simp;omega) ay az (by omega) (by omega)]
      refine bt (gcS _ (by omega) (kdw (by omega))) (bc (bc (bt (lgetS _ (by omega) (kdw (by omega))) ?_)))
      rw [up_ne _ _ _ (by omega),up_ne _ _ _ (by omega),up_ne _ _ _ (by omega)]
      have ew:Ar.std.wrp .i64 (Ar.std.zadd (s (38+t)) 1)=s (38+t)+1:=by simp only [std_wrp,std_zadd];exact i64w _ (by omega) (by omega)
      rw [ew,lsetS _ (by omega) (kdw (by omega))]
      have est:fup (fup (fup (fup s t (setI (s t) (nx s t))) (14+8*t+2*w) ay) (14+8*t+2*w+1) az) (38+t) (s (38+t)+1)=stS P s t (nx s t):=by
       unfold stS dS
       rw [hA]
       have:w=(s (38+t)).toNat:=by omega
       rw [this]
      rw [est]
      refine bt (gaS _ rfl) ?_
      exact bt (M96a_eq (Wf.st hv hs ht hi hb h2').z hyZ (by omega) _ _) rfl
     ·rw [if_neg h2]
      refine bt (v:=(eM (pu y (if s (38+t)=0 then [doS P s t (nx s t)] else [])).1,eQ (pu y (if s (38+t)=0 then [doS P s t (nx s t)] else [])).2)) ?_ rfl
      refine cnF (by simp [h2]) ?_
      refine bt (v:=(eM (pu y (if s (38+t)=0 then [doS P s t (nx s t)] else [])).1,eQ (pu y (if s (38+t)=0 then [doS P s t (nx s t)] else [])).2)) ?_ rfl
      have h3:ax=3:=by
       rcases act_cases (hv.act t (nx s t) hi) with h | h | h
       ·rw [hA] at h;exact absurd h.1 h1
       ·rw [hA] at h;exact absurd h.1 h2
       ·rw [hA] at h;injection h
      refine cnT (by simp [h3]) ?_
      refine bc (bc (bt (gcS s (by omega) (kdw (by omega))) ?_))
      refine bt (v:=(eM (pu y (if s (38+t)=0 then [doS P s t (nx s t)] else [])).1,eQ (pu y (if s (38+t)=0 then [doS P s t (nx s t)] else [])).2)) ?_ rfl
      by_cases hz:s (38+t)=0
      ·rw [if_pos hz]
       refine cnT (by simp [hz]) (bt (M76_eq hv hs ht hi) ?_)
       exact bt (M96_eq (Wf.do hv hs ht hi hb).z hyZ (by omega) _) rfl
      ·rw [if_neg hz]
       exact cnF (by simp [hz]) rfl) (fun x=>by
   unfold M177L0
   exact cnF (by simp) rfl) x hx hq
 exact bt key rfl
theorem M180L0_eq {t i:Nat} (ht:t<P.length) (hi:i<(thr P t).length) (b:Bool) {ax ay:Int} (hx:(aAt (thr P t) i).1=ax) (hy:(aAt (thr P t) i).2.1=ay) :
  iter (M180L0 Ar.std (eS s) (t:Int) ax ay (eT ((thr P t).take i))) (b,0)=some (b&&(List.range i).all fun j => !wts (aAt (thr P t) i) (aAt (thr P t) j)||btI (s t) j):=by
 have ht3:=lt3 hv ht
 have hl7:=hv.l7 t
 obtain ⟨d0,d1⟩:=hs.d7 hv ht3
 have hlen:((thr P t).take i).length=i:=by rw [List.length_take];omega
 obtain ⟨z,hz,e⟩:=iter_rel (step:=M180L0 Ar.std (eS s) (t:Int) ax ay (eT ((thr P t).take i))) i (fun (z:Bool) j=>(z,(j:Int))) (fun j z=>z=(b&&(List.range j).all fun j => !wts (aAt (thr P t) i) (aAt (thr P t) j)||btI (s t) j)) id
  (fun j z hj hR=>by
   subst hR
   obtain ⟨⟨bx,by',bz⟩,hB⟩ : ∃ a,aAt (thr P t) j=a:=⟨_,rfl⟩
   have hget:((thr P t).take i)[j]?=some (bx,by',bz):=by rw [List.getElem?_take_of_lt hj,aAt_get (by omega),hB]
   refine ⟨_,rfl,?_⟩
   unfold M180L0
   refine cnT (by rw [len_enc,hlen];simp [hj]) (bt (gt_enc hget) ?_)
   refine bt (v:=wts (aAt (thr P t) i) (aAt (thr P t) j)) ?_ ?_
   ·unfold wts
    rw [hB,hx,hy]
    simp only [std_zeq]
    by_cases h1:ax=3
    ·simp [h1]
    ·by_cases h2:bx=3
     ·simp [h1,h2]
     ·simp [h1,h2]
   ·rw [wrap5 hv hs (by omega),List.range_succ,List.all_append]
    simp only [List.all_cons,List.all_nil,Bool.and_true]
    generalize (List.range j).all _=q
    refine bt (v:=b&&(q&&(!wts (aAt (thr P t) i) (aAt (thr P t) j)||btI (s t) j))) ?_ rfl
    cases b with
    | false=>rfl
    | true =>
      cases q with
      | false=>rfl
      | true =>
        simp only [Bool.true_and,cond_true]
        cases hw:wts (aAt (thr P t) i) (aAt (thr P t) j) with
        | false=>rfl
        | true =>
          simp only [cond_true,Bool.not_true,Bool.false_or]
          rw [nat1]
          refine bc (bc (bt (gcS s (by omega) (kd8 ht3)) (bnk (by simp) ?_)))
          rw [getB1 d0 d1 (by omega)])
  (fun z hz=>by
   unfold M180L0
   exact cnF (by rw [len_enc,hlen];simp) rfl) b (by simp)
 exact e.trans (by rw [hz];rfl)
theorem M180_eq {x:LQ} (hx:ZL x.1) (hq:x.2.length<=1000000):M180 Ar.std (eP P) (eS s) (eM x.1) (eQ x.2)=some (eM (pu x (scs 3 P s)).1,eQ (pu x (scs 3 P s)).2):=by
 unfold M180
 refine bck (by rw [lenS];rfl) ?_
 have key:=iter_pu (step:=M180L2 Ar.std (eP P) (eS s)) P.length (fun x t=>((t:Int),eM x.1,eQ x.2)) (sck 3 P s) 7 1000000 (fun x=>(eM x.1,eQ x.2))
  (fun t ht=>⟨fun u hu=>((sck_wf hv hs ht 3).1 u hu).z,(sck_wf hv hs ht 3).2⟩)
  (fun t x ht hx hq=>by
   have ht3:=lt3 hv ht
   have hl7:=hv.l7 t
   obtain ⟨d0,d1⟩:=hs.d7 hv ht3
   have hsc:sck 3 P s t=sc3 P s t:=by unfold sck;rw [if_neg (by omega),if_neg (by omega)]
   unfold M180L2
   refine cnT (by simp [ht]) (bt (gt_eP (thr_get ht)) ?_)
   rw [wrap5 hv hs (by omega),hsc]
   unfold sc3
   have key:=iter_pu (step:=M180L1 Ar.std (eP P) (eS s) (t:Int) (eT (thr P t))) (thr P t).length (fun x i=>((i:Int),eM x.1,eQ x.2)) (sc3i P s t) 1 (1000000+7*t) (fun x=>(eM x.1,eQ x.2))
    (fun i hi=>⟨fun u hu=>((sc3i_wf hv hs ht hi).1 u hu).z,(sc3i_wf hv hs ht hi).2⟩)
    (fun i x hi hx hq=>by
     obtain ⟨⟨ax,ay,az⟩,hA⟩ : ∃ a,aAt (thr P t) i=a:=⟨_,rfl⟩
     have hget:=aAt_get hi
     rw [hA] at hget
     unfold M180L1
     refine cnT (by simp [hi]) (bt (gt_enc hget) ?_)
     rw [nat1]
     refine bc (bc (bt (gcS s (by omega) (kd8 ht3)) (bnk (by simp) (bt (sl_encT (by omega)) ?_))))
     rw [getB0 d0 d1 (by omega)]
     refine bt (M180L0_eq hv hs ht hi _ (by rw [hA]) (by rw [hA])) ?_
     rw [wrap5 hv hs (by omega)]
     refine bt (v:=(eM (pu x (sc3i P s t i)).1,eQ (pu x (sc3i P s t i)).2)) ?_ rfl
     unfold sc3i
     have hfr:(!btI (s t) i&&(List.range i).all fun j => !wts (aAt (thr P t) i) (aAt (thr P t) j)||btI (s t) j)=fr3 P s t i:=rfl
     rw [hfr]
     cases h:fr3 P s t i with
     | false=>rfl
     | true =>
       have hbit:btI (s t) i=false:=by
        unfold fr3 at h
        simp only [zp4,Bool.not_eq_true'] at h
        exact h.1
       simp only [cond_true]
       refine bt (gaS s rfl) (bt (M76_eq hv hs ht hi) ?_)
       exact bt (M96_eq (Wf.do hv hs ht hi hbit).z hx (by omega) _) rfl) (fun x=>by
     unfold M180L1
     exact cnF (by simp) rfl) x hx (by omega)
   exact bt key rfl) (fun x=>by
   unfold M180L2
   exact cnF (by simp) rfl) x hx hq
 exact bt key rfl
end
end Go.Am

namespace Go.Am
open Go
def Kind (k:Nat):Prop:=k=1\/k=2\/k=3
structure WfK (k:Nat) (P:Pg) (s:Sta):Prop where
 wf:Wf P s
 nb:k≠2 -> ∀ t,t<3->s (38+t)=0
 bz : ∀ t (j:Nat),t<3->j<4->s (38+t)<=(j:Int)->s (14+8*t+2*j)=0/\s (14+8*t+2*j+1)=0
 rz : ∀ n,n<8->sumLd P<=n->s (3+n)=0
theorem WfK.init (k:Nat) (P:Pg):WfK k P s0:=⟨Wf.init P,fun _ _ _=>rfl,fun _ _ _ _ _=>⟨rfl,rfl⟩,fun _ _ _=>rfl⟩
section
variable {k:Nat} {P:Pg} (hv:VP P) {s:Sta} (hk:WfK k P s) {t:Nat} (ht:t<P.length)
include hv hk ht
theorem vw_t (i:Nat):((vw P s).t t).1 i=btI (s t) i:=by
 show (decide (t<3)&&btI (s t) i)=_
 rw [decide_eq_true (lt3 hv ht),Bool.true_and]
theorem vw_bf:(vw P s).bf t=bufS s t:=by
 show (if t<3 then bufS s t else [])=_
 rw [if_pos (lt3 hv ht)]
theorem buf_nil:bufS s t=[]↔s (38+t)=0:=by
 have:=hk.wf.w4 hv (lt3 hv ht)
 unfold bufS
 rw [List.map_eq_nil_iff,List.range_eq_nil]
 omega
theorem may_nx (h3:k≠3) {i:Nat} (hi:i<(thr P t).length):mayT k (thr P t) ((vw P s).t t) i↔i=nx s t/\(k=2->(aAt (thr P t) i).1=3->s (38+t)=0):=by
 obtain ⟨h1,h2,_⟩:=nx_spec hv hk.wf (lt3 hv ht)
 unfold mayT
 rw [vw_t hv hk ht]
 have hb:((vw P s).t t).2=[]↔s (38+t)=0:=by
  show (vw P s).bf t=[]↔_
  rw [vw_bf hv hk ht];exact buf_nil hv hk ht
 rw [hb]
 constructor
 ·rintro ⟨ha,hb,hc⟩
  refine ⟨?_,hc⟩
  rcases Nat.lt_trichotomy i (nx s t) with h | h | h
  ·rw [h1 i h] at ha;cases ha
  ·exact h
  ·have:=hb _ h (.inl h3)
   rw [vw_t hv hk ht,h2] at this;cases this
 ·rintro ⟨rfl,hc⟩
  exact ⟨h2,fun j hj _=>by rw [vw_t hv hk ht];exact h1 j hj,hc⟩
theorem may_fr {i:Nat} (hi:i<(thr P t).length):mayT 3 (thr P t) ((vw P s).t t) i↔fr3 P s t i=true:=by
 unfold mayT fr3
 rw [vw_t hv hk ht,zp4,Bool.not_eq_true',List.all_eq_true]
 constructor
 ·rintro ⟨ha,hb,_⟩
  refine ⟨ha,fun j hj => ?_⟩
  have hj:=List.mem_range.1 hj
  cases hw:wts (aAt (thr P t) i) (aAt (thr P t) j) with
  | false=>rfl
  | true =>
    have hm:must 3 (aAt (thr P t) i) (aAt (thr P t) j):=by
     unfold wts at hw
     simp at hw
     unfold must
     omega
    have:=hb j hj hm
    rw [vw_t hv hk ht] at this
    rw [this];rfl
 ·rintro ⟨ha,hb⟩
  refine ⟨ha,fun j hj hm => ?_,fun h=>by omega⟩
  have:=hb j (List.mem_range.2 hj)
  rw [vw_t hv hk ht]
  have hw:wts (aAt (thr P t) i) (aAt (thr P t) j)=true:=by
   unfold must at hm
   unfold wts
   simp
   omega
  rw [hw] at this
  simpa using this
noncomputable def actS (k:Nat) (P:Pg) (s:Sta) (t i:Nat):Sta :=
 if k=2/\(aAt (thr P t) i).1=1 then ldS P s t i else if k=2/\(aAt (thr P t) i).1=2 then stS P s t i else doS P s t i
theorem vw_act {i:Nat} (hi:i<(thr P t).length) (hb:btI (s t) i=false):vw P (actS k P s t i)=doA k P (vw P s) t i:=by
 unfold actS
 by_cases h1:k=2/\(aAt (thr P t) i).1=1
 ·rw [if_pos h1];exact vw_ld hv hk.wf ht hi h1.2
 ·rw [if_neg h1]
  by_cases h2:k=2/\(aAt (thr P t) i).1=2
  ·rw [if_pos h2]
   obtain ⟨rfl,h2⟩:=h2
   exact vw_st hv hk.wf ht hi hb h2
  ·rw [if_neg h2]
   refine vw_do hv hk.wf ht hi ?_ ?_
   ·by_cases h:k=2
    ·exact .inr (fun h'=>h2 ⟨h,h'⟩)
    ·exact .inl h
   ·by_cases h:k=2
    ·exact .inr (fun h'=>h1 ⟨h,h'⟩)
    ·refine .inl ?_
     rw [vw_bf hv hk ht];exact (buf_nil hv hk ht).2 (hk.nb h t (lt3 hv ht))
theorem dS_out {i j:Nat} (hj:3<=j):dS s t i j=s j:=by
 have:=lt3 hv ht
 unfold dS;rw [up_ne _ _ _ (by omega)]
theorem act_wf {i:Nat} (hi:i<(thr P t).length) (hb:btI (s t) i=false):WfK k P (actS k P s t i):=by
 have ht3:=lt3 hv ht
 have hs:=hk.wf
 unfold actS
 by_cases h1:k=2/\(aAt (thr P t) i).1=1
 ·rw [if_pos h1]
  have hn:=num8 hv hs ht hi h1.2
  have hlt:=num_lt ht hi h1.2
  refine ⟨Wf.ld hv hs ht hi hb h1.2,fun h=>absurd h1.1 h,fun u j hu hj hw => ?_,fun n hn2 hle => ?_⟩
  ·unfold ldS at hw ⊢
   rw [up_ne _ _ _ (by omega),dS_out hv hk ht (by omega)] at hw
   rw [up_ne _ _ _ (by omega),up_ne _ _ _ (by omega),dS_out hv hk ht (by omega),dS_out hv hk ht (by omega)]
   exact hk.bz u j hu hj hw
  ·unfold ldS
   rw [up_ne _ _ _ (by omega),dS_out hv hk ht (by omega)]
   exact hk.rz n hn2 hle
 ·rw [if_neg h1]
  by_cases h2:k=2/\(aAt (thr P t) i).1=2
  ·rw [if_pos h2]
   obtain ⟨r0,r1⟩:=room hv hs ht hi hb h2.2
   refine ⟨Wf.st hv hs ht hi hb h2.2,fun h=>absurd h2.1 h,fun u j hu hj hw => ?_,fun n hn2 hle => ?_⟩
   ·by_cases hut:u=t
    ·subst hut
     unfold stS at hw ⊢
     rw [up_same] at hw
     have:=hk.bz u j hu hj (by omega)
     rw [up_ne _ _ _ (by omega),up_ne _ _ _ (by omega),up_ne _ _ _ (by omega),up_ne _ _ _ (by omega),up_ne _ _ _ (by omega),up_ne _ _ _ (by omega),dS_out hv hk ht (by omega),dS_out hv hk ht (by omega)]
     exact this
    ·unfold stS at hw ⊢
     rw [up_ne _ _ _ (by omega),up_ne _ _ _ (by omega),up_ne _ _ _ (by omega),dS_out hv hk ht (by omega)] at hw
     rw [up_ne _ _ _ (by omega),up_ne _ _ _ (by omega),up_ne _ _ _ (by omega),up_ne _ _ _ (by omega),up_ne _ _ _ (by omega),up_ne _ _ _ (by omega),dS_out hv hk ht (by omega),dS_out hv hk ht (by omega)]
     exact hk.bz u j hu hj hw
   ·unfold stS
    rw [up_ne _ _ _ (by omega),up_ne _ _ _ (by omega),up_ne _ _ _ (by omega),dS_out hv hk ht (by omega)]
    exact hk.rz n hn2 hle
  ·rw [if_neg h2]

   have hout : ∀ j,14<=j->doS P s t i j=s j:=by
    intro j hj
    unfold doS
    split
    ·rename_i hl
     have hn:=num8 hv hs ht hi hl
     rw [up_ne _ _ _ (by omega),dS_out hv hk ht (by omega)]
    ·split
     ·rename_i hl
      obtain ⟨c0,c1,_⟩:=var3 hv hs ht hi (.inr hl)
      rw [up_ne _ _ _ (by omega),dS_out hv hk ht (by omega)]
     ·exact dS_out hv hk ht (by omega)
   refine ⟨Wf.do hv hs ht hi hb,fun h u hu => ?_,fun u j hu hj hw => ?_,fun n hn2 hle => ?_⟩
   ·rw [hout _ (by omega)];exact hk.nb h u hu
   ·rw [hout _ (by omega)] at hw
    rw [hout _ (by omega),hout _ (by omega)]
    exact hk.bz u j hu hj hw
   ·unfold doS
    split
    ·rename_i hl
     have hlt:=num_lt ht hi hl
     rw [up_ne _ _ _ (by omega),dS_out hv hk ht (by omega)];exact hk.rz n hn2 hle
    ·split
     ·rename_i hl
      obtain ⟨c0,c1,_⟩:=var3 hv hs ht hi (.inr hl)
      rw [up_ne _ _ _ (by omega),dS_out hv hk ht (by omega)];exact hk.rz n hn2 hle
     ·rw [dS_out hv hk ht (by omega)];exact hk.rz n hn2 hle
theorem out_wf (h2:k=2) (hw:0<s (38+t)):WfK k P (outS s t):=by
 have ht3:=lt3 hv ht
 have hs:=hk.wf
 obtain ⟨c0,c1,v0,v1⟩:=out_first hv hs ht hw
 obtain ⟨w0,w1⟩:=hs.w4 hv ht3
 refine ⟨Wf.out hv hs ht hw,fun h=>absurd h2 h,fun u j hu hj hle => ?_,fun n hn2 hle => ?_⟩
 ·by_cases hut:u=t
  ·subst hut
   have e1:outS s u (38+u)=s (38+u)-1:=by rw [outS_get hv hs ht,if_neg (by omega),if_neg (by omega),if_pos rfl]
   rw [e1] at hle
   have g : ∀ q,q<2->outS s u (14+8*u+2*j+q)=0:=by
    intro q hq
    rw [outS_get hv hs ht]
    by_cases hjw:j=(s (38+u)-1).toNat
    ·rcases (show q=0\/q=1 by omega) with rfl | rfl
     ·rw [if_neg (by omega),if_pos (by omega)]
     ·rw [if_pos (by omega)]
    ·rw [if_neg (by omega),if_neg (by omega),if_neg (by omega)]
     by_cases hj3:j=3
     ·rw [if_neg (by omega),if_neg (by omega)]
      have:=hk.bz u j hu hj (by omega)
      rcases (show q=0\/q=1 by omega) with rfl | rfl
      ·exact this.1
      ·exact this.2
     ·rw [if_pos (by omega),if_neg (by omega)]
      have:=hk.bz u (j+1) hu (by omega) (by omega)
      rcases (show q=0\/q=1 by omega) with rfl | rfl
      ·exact this.1
      ·exact this.2
   exact ⟨g 0 (by omega),g 1 (by omega)⟩
  ·have e1:outS s t (38+u)=s (38+u):=by rw [outS_get hv hs ht,if_neg (by omega),if_neg (by omega),if_neg (by omega),if_neg (by omega),if_neg (by omega)]
   rw [e1] at hle
   have:=hk.bz u j hu hj hle
   rw [outS_get hv hs ht,outS_get hv hs ht,if_neg (by omega),if_neg (by omega),if_neg (by omega),if_neg (by omega),if_neg (by omega),if_neg (by omega),if_neg (by omega),if_neg (by omega),if_neg (by omega),if_neg (by omega)]
   exact this
 ·rw [outS_get hv hs ht,if_neg (by omega),if_neg (by omega),if_neg (by omega),if_neg (by omega),if_neg (by omega)]
  exact hk.rz n hn2 hle
end
def StpS (k:Nat) (P:Pg) (s u:Sta):Prop :=
 (∃ t i,t<P.length/\i<(thr P t).length/\mayT k (thr P t) ((vw P s).t t) i/\u=actS k P s t i)\/(∃ t,t<P.length/\k=2/\0<s (38+t)/\u=outS s t)
section
variable {k:Nat} (hK:Kind k) {P:Pg} (hv:VP P) {s:Sta} (hk:WfK k P s)
include hK hv hk
theorem mem_scs {u:Sta}:u∈scs k P s↔StpS k P s u:=by
 unfold scs
 rw [List.mem_flatMap]
 constructor
 ·rintro ⟨t,ht,hu⟩
  have ht:=List.mem_range.1 ht
  have hb:=nx_bit hv hk.wf ht
  unfold sck at hu
  rcases hK with rfl | rfl | rfl
  ·rw [if_pos rfl] at hu
   unfold sc1 at hu
   split at hu
   ·rename_i hi
    refine .inl ⟨t,nx s t,ht,hi,(may_nx hv hk ht (by omega) hi).2 ⟨rfl,fun h=>by omega⟩,?_⟩
    rw [List.mem_singleton.1 hu]
    unfold actS;rw [if_neg (by omega),if_neg (by omega)]
   ·cases hu
  ·rw [if_neg (by omega),if_pos rfl] at hu
   unfold sc2 at hu
   rcases List.mem_append.1 hu with hu | hu
   ·split at hu
    ·rename_i hw
     exact .inr ⟨t,ht,rfl,hw,List.mem_singleton.1 hu⟩
    ·cases hu
   ·unfold sc2b at hu
    have hle:=nx_le hv hk.wf ht
    split at hu
    ·cases hu
    ·rename_i hne
     have hi:nx s t<(thr P t).length:=by omega
     split at hu
     ·rename_i h1
      refine .inl ⟨t,nx s t,ht,hi,(may_nx hv hk ht (by omega) hi).2 ⟨rfl,fun _ h=>by omega⟩,?_⟩
      rw [List.mem_singleton.1 hu]
      unfold actS;rw [if_pos ⟨rfl,h1⟩]
     ·rename_i h1
      split at hu
      ·rename_i h2
       refine .inl ⟨t,nx s t,ht,hi,(may_nx hv hk ht (by omega) hi).2 ⟨rfl,fun _ h=>by omega⟩,?_⟩
       rw [List.mem_singleton.1 hu]
       unfold actS;rw [if_neg (by omega),if_pos ⟨rfl,h2⟩]
      ·rename_i h2
       split at hu
       ·rename_i hz
        refine .inl ⟨t,nx s t,ht,hi,(may_nx hv hk ht (by omega) hi).2 ⟨rfl,fun _ _=>hz⟩,?_⟩
        rw [List.mem_singleton.1 hu]
        unfold actS;rw [if_neg (by omega),if_neg (by omega)]
       ·cases hu
  ·rw [if_neg (by omega),if_neg (by omega)] at hu
   unfold sc3 at hu
   obtain ⟨i,hi,hu⟩:=List.mem_flatMap.1 hu
   have hi:=List.mem_range.1 hi
   unfold sc3i at hu
   cases hf:fr3 P s t i with
   | false=>rw [hf] at hu;cases hu
   | true =>
     rw [hf] at hu
     refine .inl ⟨t,i,ht,hi,(may_fr hv hk ht hi).2 hf,?_⟩
     rw [List.mem_singleton.1 hu]
     unfold actS;rw [if_neg (by omega),if_neg (by omega)]
 ·rintro (⟨t,i,ht,hi,hm,rfl⟩ | ⟨t,ht,rfl,hw,rfl⟩)
  ·refine ⟨t,List.mem_range.2 ht,?_⟩
   unfold sck
   rcases hK with rfl | rfl | rfl
   ·obtain ⟨rfl,_⟩:=(may_nx hv hk ht (by omega) hi).1 hm
    rw [if_pos rfl]
    unfold sc1 actS
    rw [if_pos hi,if_neg (by omega),if_neg (by omega)];simp
   ·obtain ⟨rfl,hz⟩:=(may_nx hv hk ht (by omega) hi).1 hm
    rw [if_neg (by omega),if_pos rfl]
    unfold sc2
    refine List.mem_append.2 (.inr ?_)
    unfold sc2b
    rw [if_neg (show ¬ nx s t=(thr P t).length by omega)]
    by_cases h1:(aAt (thr P t) (nx s t)).1=1
    ·have e:actS 2 P s t (nx s t)=ldS P s t (nx s t):=by unfold actS;rw [if_pos ⟨rfl,h1⟩]
     rw [if_pos h1,e];simp
    ·rw [if_neg h1]
     by_cases h2:(aAt (thr P t) (nx s t)).1=2
     ·have e:actS 2 P s t (nx s t)=stS P s t (nx s t):=by unfold actS;rw [if_neg (fun h=>h1 h.2),if_pos ⟨rfl,h2⟩]
      rw [if_pos h2,e];simp
     ·rw [if_neg h2]
      have e:actS 2 P s t (nx s t)=doS P s t (nx s t):=by unfold actS;rw [if_neg (fun h=>h1 h.2),if_neg (fun h=>h2 h.2)]
      have h3:(aAt (thr P t) (nx s t)).1=3:=by
       rcases act_cases (hv.act t (nx s t) hi) with h | h | h
       ·exact absurd h.1 h1
       ·exact absurd h.1 h2
       ·rw [h]
      rw [if_pos (hz rfl h3),e];simp
   ·rw [if_neg (by omega),if_neg (by omega)]
    unfold sc3 sc3i actS
    rw [if_neg (by omega),if_neg (by omega)]
    refine List.mem_flatMap.2 ⟨i,List.mem_range.2 hi,?_⟩
    rw [(may_fr hv hk ht hi).1 hm];simp
  ·refine ⟨t,List.mem_range.2 ht,?_⟩
   unfold sck sc2
   rw [if_neg (by omega),if_pos rfl,if_pos hw];simp
theorem may_bit {t i:Nat} (ht:t<P.length) (hm:mayT k (thr P t) ((vw P s).t t) i):btI (s t) i=false:=by
 have:=hm.1
 rwa [vw_t hv hk ht] at this
theorem StpS.wf {u:Sta} (h:StpS k P s u):WfK k P u:=by
 rcases h with ⟨t,i,ht,hi,hm,rfl⟩ | ⟨t,ht,h2,hw,rfl⟩
 ·exact act_wf hv hk ht hi (may_bit hK hv hk ht hm)
 ·exact out_wf hv hk ht h2 hw
theorem StpS.stp {u:Sta} (h:StpS k P s u):Stp k P (vw P s) (vw P u):=by
 rcases h with ⟨t,i,ht,hi,hm,rfl⟩ | ⟨t,ht,h2,hw,rfl⟩
 ·rw [vw_act hv hk ht hi (may_bit hK hv hk ht hm)];exact .act t i ht hi hm
 ·rw [vw_out hv hk.wf ht hw]
  refine .out t ht h2 ?_
  rw [vw_bf hv hk ht]
  intro h
  have:=(buf_nil hv hk ht).1 h
  omega
theorem stp_StpS {a:AS} (h:Stp k P (vw P s) a) : ∃ u,StpS k P s u/\vw P u=a:=by
 cases h with
 | act t i ht hi hm=>exact ⟨_,.inl ⟨t,i,ht,hi,hm,rfl⟩,vw_act hv hk ht hi (may_bit hK hv hk ht hm)⟩
 | out t ht h2 hb =>
   rw [vw_bf hv hk ht] at hb
   have hw:0<s (38+t):=by
    have:=hk.wf.w4 hv (lt3 hv ht)
    have:s (38+t)≠0:=fun h=>hb ((buf_nil hv hk ht).2 h)
    omega
   exact ⟨_,.inr ⟨t,ht,h2,hw,rfl⟩,vw_out hv hk.wf ht hw⟩
end
section
variable {k:Nat} (hK:Kind k) {P:Pg} (hv:VP P)
include hK hv
theorem reach_wf {u:Sta} (h:Reach (scs k P) s0 u):WfK k P u/\Stps k P AS.init (vw P u):=by
 induction h with
 | init=>exact ⟨WfK.init k P,by rw [vw_init];exact .refl _⟩
 | step _ hn ih =>
   have:=(mem_scs hK hv ih.1).1 hn
   exact ⟨StpS.wf hK hv ih.1 this,.tail ih.2 (StpS.stp hK hv ih.1 this)⟩
theorem stps_reach {a:AS} (h:Stps k P AS.init a) : ∃ u,Reach (scs k P) s0 u/\vw P u=a:=by
 have key : ∀ {x a:AS},Stps k P x a->x=AS.init -> ∃ u,Reach (scs k P) s0 u/\vw P u=a:=by
  intro x a h
  induction h with
  | refl=>rintro rfl;exact ⟨s0,.init,vw_init P⟩
  | tail _ h' ih =>
    intro e
    obtain ⟨u,h1,rfl⟩:=ih e
    obtain ⟨v,h2,h3⟩:=stp_StpS hK hv (reach_wf hK hv h1).1 h'
    exact ⟨v,.step h1 ((mem_scs hK hv (reach_wf hK hv h1).1).2 h2),h3⟩
 exact key h rfl
end
def unD (l:List Ac) (a:Int):Nat:=(List.range l.length).countP fun i => !btI a i
def muT (P:Pg) (s:Sta) (t:Nat):Nat:=2*unD (thr P t) (s t)+(s (38+t)).toNat
def mu (P:Pg) (s:Sta):Nat:=((List.range P.length).map (muT P s)).sum
theorem sum_lt {n t:Nat} {f g:Nat->Nat} (ht:t<n) (hlt:g t<f t) (he : ∀ u,u<n->u≠t->g u=f u):((List.range n).map g).sum<((List.range n).map f).sum:=by
 induction n with
 | zero=>omega
 | succ n ih =>
   rw [List.range_succ,List.map_append,List.map_append,List.sum_append,List.sum_append]
   simp only [List.map_cons,List.map_nil,List.sum_cons,List.sum_nil,Nat.add_zero]
   rcases Nat.lt_or_eq_of_le (Nat.le_of_lt_succ ht) with h | h
   ·have:=ih h (fun u hu=>he u (by omega))
    have:=he n (by omega) (by omega)
    omega
   ·subst h
    have:(List.range t).map g=(List.range t).map f:=List.map_congr_left fun u hu=>he u (by have:=List.mem_range.1 hu;omega) (by have:=List.mem_range.1 hu;omega)
    rw [this];omega
theorem unD_set {l:List Ac} {a:Int} {i:Nat} (hi:i<l.length) (hb:btI a i=false):unD l (setI a i)+1=unD l a:=by
 unfold unD
 have key : ∀ n,((List.range n).countP fun j => !btI (setI a i) j)+(if i<n then 1 else 0)=(List.range n).countP fun j => !btI a j:=by
  intro n
  induction n with
  | zero=>simp
  | succ n ih =>
    have e1 : ∀ (b:Bool),List.countP (fun _ => !b) [n]=if b then 0 else 1:=by intro b;cases b <;> rfl
    have e2:List.countP (fun j => !btI (setI a i) j) [n]=if btI (setI a i) n then 0 else 1:=by rw [List.countP_singleton];cases btI (setI a i) n <;> rfl
    have e3:List.countP (fun j => !btI a j) [n]=if btI a n then 0 else 1:=by rw [List.countP_singleton];cases btI a n <;> rfl
    rw [List.range_succ,List.countP_append,List.countP_append,e2,e3]
    by_cases hn:n=i
    ·subst hn
     have e4:btI (setI a n) n=true:=by rw [btI_set];simp
     rw [e4,hb]
     simp only [Nat.lt_irrefl,if_false] at ih
     simp only [Nat.lt_succ_self,if_true,Bool.false_eq_true,if_false]
     omega
    ·have e4:btI (setI a i) n=btI a n:=by rw [btI_set];simp [hn]
     rw [e4]
     by_cases hlt:i<n
     ·have h1:i<n+1:=by omega
      simp only [hlt,h1,if_true] at ih ⊢;omega
     ·have h1 : ¬ i<n+1:=by omega
      simp only [hlt,h1,if_false] at ih ⊢;omega
 have:=key l.length
 rw [if_pos hi] at this
 exact this
section
variable {k:Nat} (hK:Kind k) {P:Pg} (hv:VP P) {s:Sta} (hk:WfK k P s)
include hK hv hk
theorem StpS.mu {u:Sta} (h:StpS k P s u):mu P u<mu P s:=by
 have hs:=hk.wf
 rcases h with ⟨t,i,ht,hi,hm,rfl⟩ | ⟨t,ht,h2,hw,rfl⟩
 ·have ht3:=lt3 hv ht
  have hb:=may_bit hK hv hk ht hm
  have hc:=unD_set hi hb
  have hd : ∀ u,u<3->actS k P s t i u=dS s t i u:=by
   intro u hu
   unfold actS
   split
   ·unfold ldS;rw [up_ne _ _ _ (by omega)]
   ·split
    ·unfold stS;rw [up_ne _ _ _ (by omega),up_ne _ _ _ (by omega),up_ne _ _ _ (by omega)]
    ·unfold doS
     split
     ·rw [up_ne _ _ _ (by omega)]
     ·split
      ·rw [up_ne _ _ _ (by omega)]
      ·rfl
  have hw : ∀ u,u<3->actS k P s t i (38+u)=s (38+u)\/(u=t/\0<=s (38+t)/\actS k P s t i (38+t)=s (38+t)+1):=by
   intro u hu
   unfold actS
   split
   ·rename_i hl
    have hn:=num8 hv hs ht hi hl.2
    refine .inl ?_;unfold ldS;rw [up_ne _ _ _ (by omega),dS_out hv hk ht (by omega)]
   ·split
    ·rename_i hl
     obtain ⟨r0,r1⟩:=room hv hs ht hi hb hl.2
     by_cases hut:u=t
     ·refine .inr ⟨hut,r0,?_⟩;unfold stS;rw [up_same]
     ·refine .inl ?_;unfold stS;rw [up_ne _ _ _ (by omega),up_ne _ _ _ (by omega),up_ne _ _ _ (by omega),dS_out hv hk ht (by omega)]
    ·refine .inl ?_
     unfold doS
     split
     ·rename_i hl
      have hn:=num8 hv hs ht hi hl
      rw [up_ne _ _ _ (by omega),dS_out hv hk ht (by omega)]
     ·split
      ·rename_i hl
       obtain ⟨c0,c1,_⟩:=var3 hv hs ht hi (.inr hl)
       rw [up_ne _ _ _ (by omega),dS_out hv hk ht (by omega)]
      ·exact dS_out hv hk ht (by omega)
  refine sum_lt ht ?_ (fun u hu hne => ?_)
  ·unfold muT
   have e:actS k P s t i t=setI (s t) i:=by rw [hd t ht3];unfold dS;rw [up_same]
   rw [e]
   rcases hw t ht3 with h | ⟨_,h0,h⟩
   ·rw [h];omega
   ·rw [h];omega
  ·have hu3:=lt3 hv hu
   unfold muT
   have e:actS k P s t i u=s u:=by rw [hd u hu3];unfold dS;rw [up_ne _ _ _ hne]
   rw [e]
   rcases hw u hu3 with h | ⟨h,_⟩
   ·rw [h]
   ·exact absurd h hne
 ·have ht3:=lt3 hv ht
  obtain ⟨c0,c1,v0,v1⟩:=out_first hv hs ht hw
  obtain ⟨w0,w1⟩:=hs.w4 hv ht3
  have hlow : ∀ u,u<3->outS s t u=s u:=by
   intro u hu
   rw [outS_get hv hs ht,if_neg (by omega),if_neg (by omega),if_neg (by omega),if_neg (by omega),if_neg (by omega)]
  refine sum_lt ht ?_ (fun u hu hne => ?_)
  ·unfold muT
   have e1:outS s t (38+t)=s (38+t)-1:=by rw [outS_get hv hs ht,if_neg (by omega),if_neg (by omega),if_pos rfl]
   rw [e1,hlow t ht3];omega
  ·have hu3:=lt3 hv hu
   unfold muT
   have e1:outS s t (38+u)=s (38+u):=by rw [outS_get hv hs ht,if_neg (by omega),if_neg (by omega),if_neg (by omega),if_neg (by omega),if_neg (by omega)]
   rw [e1,hlow u hu3]
end
theorem mu_init {P:Pg} (hv:VP P):mu P s0<=42:=by
 unfold mu
 have h1 : ∀ t,muT P s0 t<=14:=by
  intro t
  unfold muT unD
  have:(List.range (thr P t).length).countP (fun i => !btI (s0 t) i)<=(thr P t).length:=by
   have:=List.countP_le_length (p:=fun i => !btI (s0 t) i) (l:=List.range (thr P t).length)
   simpa using this
  have:=hv.l7 t
  have e:(s0 (38+t)).toNat=0:=rfl
  omega
 have h2 : ∀ n,((List.range n).map (muT P s0)).sum<=14*n:=by
  intro n
  induction n with
  | zero=>simp
  | succ n ih =>
    rw [List.range_succ,List.map_append,List.sum_append]
    have:=h1 n
    simp;omega
 have:=h2 P.length
 have:=hv.n3
 omega
end Go.Am
