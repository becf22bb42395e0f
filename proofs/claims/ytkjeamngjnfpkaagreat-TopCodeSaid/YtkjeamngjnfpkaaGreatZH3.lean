import Derived.Test.YtkjeamngjnfpkaaGreatZL21
set_option maxRecDepth 100000
set_option linter.unusedVariables false
set_option linter.unusedSimpArgs false
namespace Go.Am
open Go
namespace Call
end Call
theorem b4C (a b c:Int):Z90 Ar.std a b c=some (btw a b c):=by simp [Z90,btw]
end Go.Am
namespace Go.Am
section
variable (a b:Int) (t u:List D) (lim:Int)
end
theorem b8J (l:List Spec) (hl:a1Y l):b9G Ar.std (a0E l)=some (btw 1 l.length 2&&l.all a0P):=by
 have e:iter (a8V Ar.std (a0E l)) 0=some ((l.findIdx? fun s => !a0P s).elim (.inl ()) (fun i => .inr (i:Int))):=by
  refine a1o l _ _ _ (fun i s hn hi => ?_) ?_
  ·have h:=hl.2 s (List.mem_of_getElem? hn);simp [a8V,c2y,b4r s h.1 h.2,a6S hn,hi,a0G hi hl.1]
  simp [a8V]
 simp only [b9G,b4s,c2A,c2z,e,a0l,a1p,a0Z,a2g,a2h,a0O];cases btw 1 l.length 2 <;> simp [a1d]
theorem b4D (l:List Spec) (hl:a1Y l):Z48 Ar.std (a0E l)=some (btw 1 l.length 2&&l.all a0P):=by
 have e:iter (b3b Ar.std (a0E l)) 0=some (bif (l.any fun s => !a0P s) then .inr () else .inl ()):=by
  refine a1k l _ _ _ (fun i s hn hi => ?_) ?_
  ·have h:=hl.2 s (List.mem_of_getElem? hn);simp only [b3b,b7w s h.1 h.2,a6S hn,a0l,a0x,a2h,ltC hi,cond_true,a0g,a0i,a0G hi hl.1];cases a0P s <;> rfl
  simp [b3b]
 simp only [Z48,e,a0l,b4C,a2h,a1d];cases l.all a0P <;> simp
theorem b4E (c d:Call):b7N Ar.std c.1 c.2.1 c.2.2.1 c.2.2.2.1 c.2.2.2.2.1 c.2.2.2.2.2 d.1 d.2.1 d.2.2.1 d.2.2.2.1 d.2.2.2.2.1 d.2.2.2.2.2=some (bef c d):=by
 simp only [b7N,a0F,a0x,a0O,a0l,bef];by_cases h:c.2.2.2.2.2=0 <;> simp [h]
theorem b8K (c d:Call):b9O Ar.std c.1 c.2.1 c.2.2.1 c.2.2.2.1 c.2.2.2.2.1 c.2.2.2.2.2 d.1 d.2.1 d.2.2.1 d.2.2.2.1 d.2.2.2.2.1 d.2.2.2.2.2=some (meet c d):=by
 simp only [b9O,a0F,b4E,a0l,a0O,meet,c0Q,b1q,a6R];by_cases h:c.2.2.2.2.2=0 <;> simp [h]
theorem c1m (h:List Call) (hl:h.length<Lg):Z91 Ar.std (a0b h)=some (a4e h):=by
 have e0 : ∀ i c,h[i]?=some c->i<=h.length->iter (b1T Ar.std (a0b h) (i:Int) c.1 c.2.1 c.2.2.1 c.2.2.2.1 c.2.2.2.2.1 c.2.2.2.2.2) 0=some (bif (h.take i).any (meet c) then .inr () else .inl ()):=by
  intro i c hc hi;have hlen:(h.take i).length=i:=by simp;omega
  have:=a1k (step:=b1T Ar.std (a0b h) (i:Int) c.1 c.2.1 c.2.2.1 c.2.2.2.1 c.2.2.2.2.1 c.2.2.2.2.2) (h.take i) (meet c) (.inr ()) (.inl ()) (fun k d hd hk=>by
   have hd':h[k]?=some d:=by rw [List.getElem?_take] at hd;split at hd <;> simp_all
   have hk':k<i:=by omega
   simp only [b1T,a0x,ltC hk',cond_true,a0t hd',a0l,b8K,a0g,a0i,a0G hk' (Nat.lt_of_le_of_lt hi hl)];cases meet c d <;> rfl) (by simp [b1T,hlen])
  exact this
 have e:iter (b3c Ar.std (a0b h)) 0=some (bif (List.range h.length).any (b0G h) then .inr () else .inl ()):=by
  refine a2V h.length _ _ _ (fun i hi => ?_) ?_
  ·have hc:=zp1 hi;generalize h[i]=c at hc;rw [a4f hc];simp only [b3c,a0x,a0p,ltC hi,cond_true,a0t hc,a0l,b4C,a0F,a0g,a0i,a0G hi hl,e0 i c hc (by omega),a0O];have hw:btw 1 c.fr 100=true->IntKind.i64.wrap (c.2.2.2.2.1+1)=c.2.2.2.2.1+1:=by
    intro hb;rw [a0n] at hb;exact a8P _ (by simp only [Call.fr] at hb;omega) (by simp only [Call.fr] at hb;omega)
   cases h1:btw 0 c.1 3 <;> simp only [h1,a1r,cond_true,cond_false,Bool.not_true,Bool.not_false,Bool.true_and,Bool.false_and,Bool.true_or,Call.th] <;> try rfl
   cases h2:btw 0 c.2.1 1 <;> simp only [h2,cond_true,cond_false,Bool.not_true,Bool.not_false,Bool.true_and,Bool.false_and,Bool.true_or] <;> try rfl
   cases h3:btw 0 c.2.2.1 3 <;> simp only [h3,cond_true,cond_false,Bool.not_true,Bool.not_false,Bool.true_and,Bool.false_and,Bool.true_or] <;> try rfl
   cases h4:btw 0 c.2.2.2.1 9 <;> simp only [h4,cond_true,cond_false,Bool.not_true,Bool.not_false,Bool.true_and,Bool.false_and,Bool.true_or] <;> try rfl
   cases h5:btw 1 c.2.2.2.2.1 100 <;> simp only [h5,cond_true,cond_false,Bool.not_true,Bool.not_false,Bool.true_and,Bool.false_and,Bool.true_or] <;> try rfl
   rw [hw h5];by_cases h6:c.2.2.2.2.2=0
   ·simp only [h6,decide_true,cond_true];cases decide (c.2.2.2.1=0) <;> simp only [cond_true,cond_false,Bool.not_true,Bool.not_false,Bool.true_or,Bool.false_or] <;> try rfl
    cases (h.take i).any (meet c) <;> rfl
   simp only [h6,decide_false,cond_false];cases btw (c.2.2.2.2.1+1) c.2.2.2.2.2 100 <;> simp only [cond_true,cond_false,Bool.not_true,Bool.not_false,Bool.true_or,Bool.false_or] <;> try rfl
   cases (h.take i).any (meet c) <;> rfl
  simp [b3c]
 simp only [Z91,a0x,a0p,e,a0l,a4e];cases decide (8<(h.length:Int)) <;> simp
end Go.Am
namespace Go.Am
def a6Y (l:List Spec):Bool:=btw 1 l.length 2&&l.all a0P
def b5j (l:List Spec) (c:Call):Bool:=(l[c.ob.toNat]?.map fun s=>decide (c.op<s.2.1)).getD false
def b1z (l:List Spec) (h:List Call):Bool:=a4e h&&h.all (b5j l)
def a5V (l:List Spec) (h:List Call):Int:=bif a6Y l then (bif b1z l h then 0 else 20) else 10
theorem b8L (l:List Spec) (c:Call) (hc:0<=c.ob):b9J Ar.std c.1 c.2.1 c.2.2.1 c.2.2.2.1 c.2.2.2.2.1 c.2.2.2.2.2 (a0E l)=some (!b5j l c):=by
 simp only [b9J,a0Z,a2h,b5j];by_cases h:(l.length:Int)<=c.2.1
 ·have:l[c.2.1.toNat]?=none:=by rw [List.getElem?_eq_none_iff];omega
  simp [h,Call.ob,this]
 have hlt:c.2.1.toNat<l.length:=by simp only [Call.ob] at hc;omega
 have hg:=zp1 hlt;simp only [h,decide_false,cond_false,a4q hc hg,a0l,Call.ob,hg,Option.map_some,Option.getD_some,Call.op];congr 1;rw [Bool.eq_iff_iff];simp
theorem b8M (l:List Spec) (h:List Call) (hl:h.length<Lg) (hc : ∀ c∈h,0<=c.ob):b9K Ar.std (a0E l) (a0b h)=some (h.all (b5j l)):=by
 have e:iter (a6n Ar.std (a0b h) (a0E l)) 0=some ((h.findIdx? fun c => !b5j l c).elim (.inl ()) (fun i => .inr (i:Int))):=by
  refine a1o h _ _ _ (fun i c hn hi => ?_) ?_
  ·simp [a6n,b8L l c (hc c (List.mem_of_getElem? hn)),a0t hn,hi,a0G hi hl]
  simp [a6n]
 simp only [b9K,b5r,b5q,e,a0l,a1p,a0Z,a2g,a1d,Bool.not_not]
theorem b8N (l:List Spec) (h:List Call) (hs:a1Y l) (hl:h.length<Lg):b9L Ar.std (a0E l) (a0b h)=some (bif a6Y l then (b1z l h,0) else (false,10)):=by
 simp only [b9L,b8J l hs,a0l,b8H h hl,a6Y,b1z];cases hv:a4e h with
 | false=>simp
 | true =>
   have:=b8M l h hl (fun c hc=>by have:=(a0Q c).1 ((a5b hv).2 c hc);omega);simp [this]
theorem c1n (l:List Spec) (h:List Call) (hs:a1Y l) (hl:h.length<Lg):Z72 Ar.std (a0E l) (a0b h)=some (a5V l h):=by
 simp only [Z72,b8N l h hs hl,a0l,a5V];cases a6Y l <;> cases b1z l h <;> simp
theorem b7y (l:List Spec) (h:List Call) (hs:a1Y l) (hl:h.length<Lg):Z49 Ar.std (a0E l) (a0b h)=some (a6Y l&&b1z l h):=by
 simp only [Z49,b4D l hs,a0l,c1m h hl,a6Y,b1z];cases ha:btw 1 (l.length:Int) 2&&l.all a0P with
 | false=>simp
 | true =>
   cases hv:a4e h with
   | false=>simp
   | true =>
     have e:iter (b3d Ar.std (a0E l) (a0b h)) 0=some (bif (h.any fun c => !b5j l c) then .inr () else .inl ()):=by
      refine a1k h _ _ _ (fun i c hc hi => ?_) ?_
      ·have hob:0<=c.ob:=by have:=(a0Q c).1 ((a5b hv).2 c (List.mem_of_getElem? hc));omega
       simp only [b3d,a0x,a0Z,a2h,a0p,ltC hi,cond_true,a0t hc,a0l,a0g,a0i,a0G hi hl,b5j];by_cases hle:(l.length:Int)<=c.2.1
       ·have:l[c.2.1.toNat]?=none:=by rw [List.getElem?_eq_none_iff];omega
        simp [hle,Call.ob,this]
       have hlt:c.2.1.toNat<l.length:=by simp only [Call.ob] at hob;omega
       have hg:=zp1 hlt;simp only [List.length_map,hle,decide_false,cond_false,a4q hob hg,a0l,Call.ob,hg,Option.map_some,Option.getD_some,Call.op];by_cases hq:c.2.2.1<l[c.2.1.toNat].2.1
       ·have : ¬ l[c.2.1.toNat].2.1<=c.2.2.1:=by omega
        simp [hq,this]
       have:l[c.2.1.toNat].2.1<=c.2.2.1:=by omega
       simp [hq,this]
      simp [b3d]
     simp only [a0l,cond_true,cond_false,Bool.not_true,e,Bool.true_and,a1d];cases h.all (b5j l) <;> rfl
theorem c1o (l:List Spec) (h:List Call) (hs:a1Y l) (hl:h.length<Lg):Z92 Ar.std (a0E l) (a0b h)=some (a5V l h):=by
 simp only [Z92,b4D l hs,a0l,b7y l h hs hl,a5V];cases ha:a6Y l <;> simp only [a6Y] at ha <;> simp [ha]
end Go.Am
