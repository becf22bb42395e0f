import Derived.Test.YtlljehkmemajkaaAmCall
import Derived.RangeFuncRecord
import Derived.CallsIn
import Derived.Lib.BitFns
set_option linter.unusedSimpArgs false
set_option linter.unusedSectionVars false
namespace Go.Am
open Go
def b0Q (T:a0m) (σ:St) (o:Oper):Option (Nat×List AV) :=
 match o.op with
 | .call { callee := .value (.tmp t),args,argTypes } =>
   match σ.get t,((args.toList.zip argTypes.toList).mapM fun p=>opv T σ.get p.2 p.1) with
   | .yield l,some vs=>if args.size=argTypes.size then some (l,vs.map AV.copy) else none
   | _,_=>none
 | _=>none
inductive Out where
 | done (σ:St)
 | yield (l:Nat) (args:List AV) (o:Oper) (rest:List Oper) (σ:St)
 | call (f:FuncId) (args:List AV) (o:Oper) (rest:List Oper) (σ:St)
 | stuck
def a7X (A:Ar) (T:a0m) (an:Ann) (all:List Oper):List Oper->St->Out
 | [],σ => .done σ
 | o::os,σ =>
   match a1L all σ o with
   | some true =>
     match a2a T σ o with
     | some (f,args) => .call f args o os σ
     | none =>
       match b0Q T σ o with
       | some (l,args) => .yield l args o os σ
       | none =>
         match a1U A T an σ.n σ.get σ.heap o with
         | some (ss,h)=>a7X A T an all os (σ.upd ss h)
         | none => .stuck
   | some false =>
     match o.dst with
     | some d=>if decide (d<σ.n) && !(σ.get d).isBox then a7X A T an all os (σ.upd [(d,.tuple [])] none) else .stuck
     | none=>a7X A T an all os σ
   | none => .stuck
theorem b5W {A:Ar} {T:a0m} {an:Ann} {σ:St} {o:Oper} {ss:a1p} {h:Option (List Obj)} (he:a1U A T an σ.n σ.get σ.heap o=some (ss,h)):σ.heap.length<=(σ.upd ss h).heap.length:=by
 cases h with
 | none=>exact Nat.le_refl _
 | some H'=>exact a6f he
section
variable {P:Program} {T:a0m} {m:Nat} {Q:Exit->St->Prop} {ops:Array Oper} {an:Ann}
def b2l (P:Program) (m:Nat) (ops:Array Oper) (T:a0m) (Q:Exit->St->Prop):Out->Prop
 | .done σ=>Q .normal σ
 | .call f args o rest σ=>a2a T σ o=some (f,args)->a1L ops.toList σ o=some true->a1B P m ops (o::rest) Q σ
 | .yield l args o rest σ=>b0Q T σ o=some (l,args)->a1L ops.toList σ o=some true->a1B P m ops (o::rest) Q σ
 | .stuck=>False
theorem a1B.run (hT:TOk P T) : ∀ (l:List Oper) (σ:St),m<=σ.heap.length->b2l P m ops T (fun e σ'=>m<=σ'.heap.length->Q e σ') (a7X Ar.std T an ops.toList l σ)->a1B P m ops l Q σ
 | [],σ,hm,h=>a1B.nil (h hm)
 | o::os,σ,hm,h=>by
   unfold a7X at h;cases hw:a1L ops.toList σ o with
   | none=>simp [hw,b2l] at h
   | some b =>
     cases b with
     | true =>
       simp only [hw] at h;cases hc:a2a T σ o with
       | some p =>
         obtain ⟨f,args⟩:=p;simp only [hc] at h;have:=h hc hw;intro r n G a w Q' hm' R hQ;exact this r n G a w Q' hm' R (fun e a' w' hp=>by
          obtain ⟨σ',G',R',hE,hm'',hq⟩:=hp;exact hQ e a' w' ⟨σ',G',R',hE,hm'',hq (by rw [R'.h.nh];exact hm'')⟩)
       | none =>
         simp only [hc] at h;cases hy:b0Q T σ o with
         | some p =>
           obtain ⟨l,args⟩:=p;simp only [hy] at h;have:=h hy hw;intro r n G a w Q' hm' R hQ;exact this r n G a w Q' hm' R (fun e a' w' hp=>by
            obtain ⟨σ',G',R',hE,hm'',hq⟩:=hp;exact hQ e a' w' ⟨σ',G',R',hE,hm'',hq (by rw [R'.h.nh];exact hm'')⟩)
         | none =>
         simp only [hy] at h;cases he:a1U Ar.std T an σ.n σ.get σ.heap o with
         | none=>simp [he,b2l] at h
         | some q =>
           obtain ⟨ss,h'⟩:=q;simp only [he] at h;have hlen:=b5W he;exact a1B.step hw (a7U hT (a6M σ) (fun _ _=>rfl) (fun _ _ h=>h) (fun _=>rfl) he) (by omega) (a1B.run hT os _ (by omega) h)
     | false =>
       simp only [hw] at h;cases hd:o.dst with
       | none=>simp only [hd] at h;exact a1B.skip0 hw hd (a1B.run hT os σ hm h)
       | some d =>
         simp only [hd] at h;split at h
         ·rename_i hc;simp at hc;exact a1B.skip hw hd hc.1 hc.2 (a1B.run hT os _ hm h)
         exact h.elim
theorem a1B.done (hT:TOk P T) {l:List Oper} {σ σ':St} (h : ∀ A:Ar,A=Ar.std->a7X A T an ops.toList l σ = .done σ') (hm:m<=σ.heap.length) (hq:Q .normal σ'):a1B P m ops l Q σ :=
 a1B.run (an:=an) hT l σ hm (by rw [h _ rfl];exact fun _=>hq)
end
def AV.noPlace:AV->AV
 | .place .. => .undef
 | v=>v
def a7Y (e:List (Nat×AV)):List Nat->List (Nat×AV)
 | []=>[]
 | t::r=>(t,(a1S e t).noPlace)::a7Y e r
def St.keep (σ:St) (ts:List Nat):St:={ σ with env:=a7Y σ.env ts }
theorem a4e (e:List (Nat×AV)) : ∀ (ts:List Nat) (t:Nat),a1S (a7Y e ts) t=(a1S e t).noPlace\/a1S (a7Y e ts) t = .undef
 | [],t => .inr rfl
 | s::r,t=>by
   simp only [a7Y,a1S];split
   ·rename_i h;subst h;exact .inl rfl
   exact a4e e r t
theorem Rel.keep {G:Gh} {σ:St} {a:Act} {w:World} (R:Rel G σ a w) (ts:List Nat):Rel G (σ.keep ts) a w:=by
 refine ⟨R.h,R.size,fun t => ?_,fun t r off ht => ?_,R.df⟩
 ·rcases a4e σ.env ts t with h | h
  ·simp only [St.keep,St.get,h];have:=R.slots t;simp only [St.get] at this;generalize a1S σ.env t=c at this;cases c <;> first | exact this | exact .undef _ _
  simp only [St.keep,St.get,h];exact .undef _ _
 simp only [St.keep,St.get] at ht;rcases a4e σ.env ts t with h | h
 ·rw [h] at ht;generalize a1S σ.env t=c at ht;cases c <;> simp [AV.noPlace] at ht
 rw [h] at ht;cases ht
section
variable {P:Program} {T:a0m} {m:Nat} {Q:Exit->St->Prop} {σ:St}
theorem AWp.keep (ts:List Nat) {c:Code} (h:AWp P m c Q (σ.keep ts)):AWp P m c Q σ:=fun r n G a w hm R=>h r n G a w hm (R.keep ts)
def St.drop (σ:St) (k:Nat):St:={ σ with heap:=σ.heap.take k }
end
structure Rec where
 sets:a1p
 heap:Option (List Obj)
 rd:List Nat
 hr:Bool
 ho:List Nat
 low:List Obj
structure Foot where
 wr:List Nat
 rd:List Nat
 hw:Bool
 hr:Bool
 ho:List Nat
 lw:Nat
def Rec.foot (x:Rec):Foot:={ wr:=x.sets.map (·.1),rd:=x.rd,hw:=x.heap.isSome,hr:=x.hr,ho:=x.ho,lw:=x.low.length }
def a2O (low H:List Obj):List Obj:=low++H.drop low.length
@[simp] theorem b2m (H:List Obj):a2O [] H=H:=rfl
theorem a2t {low:List Obj} (h:low.length=0) (H:List Obj):a2O low H=H:=by rw [List.length_eq_zero_iff.1 h];rfl
theorem b2n (low H:List Obj):H.length<=(a2O low H).length:=by simp [a2O];omega
theorem a5k {low H:List Obj} {a:Nat} (h : ¬ a<low.length):(a2O low H)[a]?=H[a]?:=by
 unfold a2O;rw [zp8 (by omega),List.getElem?_drop];congr 1;omega
theorem b0R {low H H':List Obj} {a:Nat} (h:H[a]?=H'[a]?):(a2O low H)[a]?=(a2O low H')[a]?:=by
 by_cases hl:a<low.length
 ·unfold a2O;rw [zp7 hl,zp7 hl]
 rw [a5k hl,a5k hl];exact h
def meets (l m:List Nat):Bool:=l.any fun t=>m.contains t
def Foot.over (x y:Foot):Bool:=(x.hw&&(y.hr || !y.ho.isEmpty))||(decide (0<x.lw)&&y.hr)||y.ho.any fun a=>decide (a<x.lw)
def Foot.both (x y:Foot):Bool:=(x.hw||decide (0<x.lw))&&(y.hw||decide (0<y.lw))
def Foot.clash (x y:Foot):Bool:=meets x.wr (y.rd++y.wr)||meets x.rd y.wr||x.over y||y.over x||x.both y
structure Alike (σ τ:St):Prop where
 get : ∀ t,σ.get t=τ.get t
 heap:σ.heap=τ.heap
 n:σ.n=τ.n
theorem Alike.refl (σ:St):Alike σ σ:=⟨fun _=>rfl,rfl,rfl⟩
theorem Alike.symm {σ τ:St} (h:Alike σ τ):Alike τ σ:=⟨fun t=>(h.get t).symm,h.heap.symm,h.n.symm⟩
theorem Alike.trans {σ τ υ:St} (h:Alike σ τ) (h':Alike τ υ):Alike σ υ:=⟨fun t=>(h.get t).trans (h'.get t),h.heap.trans h'.heap,h.n.trans h'.n⟩
theorem Rel.alike {G:Gh} {σ τ:St} {a:Act} {w:World} (R:Rel G σ a w) (h:Alike σ τ):Rel G τ a w :=
 ⟨h.heap▸R.h,by rw [R.size,h.n],fun t=>by rw [<-h.get t];exact R.slots t,fun t r off ht=>by rw [<-h.get t] at ht;obtain ⟨cs,hcs⟩:=R.places t r off ht;exact ⟨cs,by rw [<-h.get r];exact hcs⟩,R.df⟩
def a2X:a1p->Nat->Option AV
 | [],_=>none
 | (s,v)::r,t=>match a2X r t with
   | some x=>some x
   | none=>if s=t then some v else none
theorem a6g : ∀ (ss:a1p) (e:List (Nat×AV)) (t:Nat),a1S (a0t e ss) t=(a2X ss t).getD (a1S e t)
 | [],e,t=>rfl
 | (s,v)::r,e,t=>by
   have ih:=a6g r (a2z e s v) t;simp only [a0t,List.foldl_cons] at ih ⊢;rw [ih,a0e];simp only [a2X];cases a2X r t with
   | some x=>rfl
   | none=>split <;> rfl
theorem a2Y {ss:a1p} {t:Nat} (h:t∉ss.map (·.1)):a2X ss t=none:=by
 induction ss with
 | nil=>rfl
 | cons p r ih =>
   obtain ⟨s,v⟩:=p;simp at h;simp only [a2X];rw [ih (by simp;exact h.2),if_neg (fun e=>h.1 e.symm)]
theorem b5X (σ:St) (ss:a1p) (h:Option (List Obj)) (t:Nat):(σ.upd ss h).get t=(a2X ss t).getD (σ.get t):=a6g ss σ.env t
def Rec.app (σ:St) (x:Rec):St:={ σ.upd x.sets x.heap with heap:=a2O x.low (σ.upd x.sets x.heap).heap }
theorem a4f (σ:St) (x:Rec) (t:Nat):(x.app σ).get t=(a2X x.sets t).getD (σ.get t):=b5X σ x.sets x.heap t
theorem a1G (σ:St) (x:Rec):(x.app σ).heap=a2O x.low (x.heap.getD σ.heap):=rfl
theorem b4m {x y:Rec} (h:x.foot.clash y.foot=false) (σ:St):Alike (y.app (x.app σ)) (x.app (y.app σ)):=by
 simp only [Foot.clash,Foot.over,Foot.both,Rec.foot,Bool.or_eq_false_iff] at h;obtain ⟨⟨⟨⟨h1,h2⟩,h3⟩,h4⟩,h5⟩:=h;have hdis : ∀ t,t∈x.sets.map (·.1)->t∉y.sets.map (·.1):=by
  intro t ht hy;have:=List.any_eq_false.1 h1 t ht;simp at this;simp at hy;exact absurd hy (by simpa using this.2)
 refine ⟨fun t => ?_,?_,rfl⟩
 ·simp only [a4f];by_cases hx:t∈x.sets.map (·.1)
  ·rw [a2Y (hdis t hx)];rfl
  rw [a2Y hx]
  rfl
 simp only [a1G];simp only [Bool.and_eq_false_iff,Bool.or_eq_false_iff] at h5;rcases h5 with ⟨e1,e2⟩ | ⟨e1,e2⟩ <;> (replace e2:=of_decide_eq_false e2;replace e2:=Nat.eq_zero_of_not_pos e2)
 ·rw [a2t e2];cases hx:x.heap with
  | none=>simp only [Option.getD_none];rw [a2t e2]
  | some _=>rw [hx] at e1;cases e1
 rw [a2t e2];cases hx:y.heap with
 | none=>simp only [Option.getD_none];rw [a2t e2]
 | some _=>rw [hx] at e1;cases e1
def a0s (S:Nat->Bool):Nat->List Rec->St->St
 | _,[],σ=>σ
 | i,x::r,σ=>a0s S (i+1) r (if S i then x.app σ else σ)
theorem a3I (S:Nat->Bool) : ∀ (i:Nat) (l:List Rec) {σ τ:St},Alike σ τ->Alike (a0s S i l σ) (a0s S i l τ)
 | _,[],_,_,h=>h
 | i,x::r,σ,τ,h=>by
   simp only [a0s];refine a3I S (i+1) r ?_;split
   ·refine ⟨fun t=>by rw [a4f,a4f,h.get],by rw [a1G,a1G,h.heap],h.n⟩
   exact h
theorem a1z {S S':Nat->Bool} : ∀ (i:Nat) (l:List Rec) (σ:St),(∀ j,i<=j->j<i+l.length->S j=S' j)->a0s S i l σ=a0s S' i l σ
 | _,[],_,_=>rfl
 | i,x::r,σ,h=>by
   simp only [a0s];rw [h i (Nat.le_refl _) (by simp)];exact a1z (i+1) r _ (fun j h1 h2=>h j (by omega) (by simp;omega))
theorem a4v (S:Nat->Bool) (x:Rec) : ∀ (i:Nat) (l:List Rec) (σ:St),(∀ (j:Nat) (hj:j<l.length),S (i+j)=true->x.foot.clash l[j].foot=false)->Alike (a0s S i l (x.app σ)) (x.app (a0s S i l σ))
 | _,[],σ,_=>Alike.refl _
 | i,y::r,σ,h=>by
   simp only [a0s];have ih:=a4v S x (i+1) r (if S i then y.app σ else σ) (fun j hj hS=>h (j+1) (by simp;omega) (by rw [show i+(j+1)=i+1+j by omega];exact hS))
   refine Alike.trans (a3I S (i+1) r ?_) ih;split
   ·rename_i hi;exact b4m (h 0 (by simp) (by simpa using hi)) σ
   exact Alike.refl _
theorem a5l (S:Nat->Bool) (q:Nat) : ∀ (i:Nat) (l:List Rec) (σ:St) (hq:q<l.length),S (i+q)=false->(∀ (j:Nat) (hj:j<l.length),q<j->S (i+j)=true->(l[q]).foot.clash l[j].foot=false) ->
  Alike (a0s (fun k=>k == i+q||S k) i l σ) ((l[q]).app (a0s S i l σ))
 | i,[],σ,hq,_,_=>by simp at hq
 | i,x::r,σ,hq,hS,h=>by
   simp only [a0s];cases q with
   | zero =>
     simp only [Nat.add_zero] at hS ⊢;simp only [beq_self_eq_true,Bool.true_or,if_true,hS,Bool.false_eq_true,if_false,List.getElem_cons_zero];rw [a1z (S':=S) (i+1) r _ (fun j h1 _=>by simp;intro e;omega)];exact a4v S x (i+1) r σ (fun j hj hSj=>h (j+1) (by simp;omega) (by omega) (by rw [show i+(j+1)=i+1+j by omega];exact hSj))
   | succ q =>
     have hne:(i == i+(q+1))=false:=by simp
     simp only [hne,Bool.false_or];have ih:=a5l S q (i+1) r (if S i then x.app σ else σ) (by simpa using hq) (by rw [show i+1+q=i+(q+1) by omega];exact hS)
      (fun j hj hqj hSj=>h (j+1) (by simp;omega) (by omega) (by rw [show i+(j+1)=i+1+j by omega];exact hSj))
     rw [show i+1+q=i+(q+1) by omega] at ih;simpa using ih
def Foot.spares (y f:Foot):Prop:=(∀ t∈f.rd,t∉y.wr)/\(f.hr=true->y.hw=false/\y.lw=0) /\ ∀ a∈f.ho,y.hw=false /\ ¬ a<y.lw
theorem Foot.spares_over {y f:Foot} (h:y.over f=false):(f.hr=true->y.hw=false/\y.lw=0) /\ ∀ a∈f.ho,y.hw=false /\ ¬ a<y.lw:=by
 simp only [Foot.over,Bool.or_eq_false_iff] at h;obtain ⟨⟨h1,h2⟩,h3⟩:=h;refine ⟨fun hr => ?_,fun a ha => ?_⟩
 ·rw [hr] at h1 h2;refine ⟨by simpa using h1,?_⟩;have : ¬ 0<y.lw:=by simpa using h2
  omega
 refine ⟨?_,by simpa using List.any_eq_false.1 h3 a ha⟩;have:f.ho.isEmpty=false:=by
  cases hf:f.ho with
  | nil=>rw [hf] at ha;cases ha
  | cons _ _=>rfl
 rw [this] at h1;simpa using h1
theorem Foot.spares_left {y f:Foot} (h:y.clash f=false):y.spares f:=by
 simp only [Foot.clash,Bool.or_eq_false_iff] at h;obtain ⟨⟨⟨⟨h1,_⟩,h3⟩,_⟩,_⟩:=h;refine ⟨fun t ht hy => ?_,Foot.spares_over h3⟩;have:=List.any_eq_false.1 h1 t hy;simp at this;exact this.1 ht
theorem a4w (S S':Nat->Bool) (f:Foot) : ∀ (i:Nat) (l:List Rec) (σ τ:St),(∀ (j:Nat) (hj:j<l.length),S (i+j)≠S' (i+j)->(l[j]).foot.spares f) ->
  (∀ t∈f.rd,σ.get t=τ.get t)->(f.hr=true->σ.heap=τ.heap)->(∀ a∈f.ho,σ.heap[a]?=τ.heap[a]?)->σ.n=τ.n ->
  (∀ t∈f.rd,(a0s S i l σ).get t=(a0s S' i l τ).get t)/\(f.hr=true->(a0s S i l σ).heap=(a0s S' i l τ).heap)/\(∀ a∈f.ho,(a0s S i l σ).heap[a]?=(a0s S' i l τ).heap[a]?)/\(a0s S i l σ).n=(a0s S' i l τ).n
 | _,[],σ,τ,_,h1,h2,h4,h3=>⟨h1,h2,h4,h3⟩
 | i,x::r,σ,τ,h,h1,h2,h4,h3=>by
   simp only [a0s];have hx:=h 0 (by simp);simp only [Nat.add_zero,List.getElem_cons_zero] at hx;have hrest:=fun σ τ=>a4w S S' f (i+1) r σ τ (fun j hj hne=>h (j+1) (by simp;omega) (by rw [show i+(j+1)=i+1+j by omega];exact hne));have skipL:x.foot.spares f->(∀ (σ:St),∀ t∈f.rd,(x.app σ).get t=σ.get t)/\(∀ (σ:St),f.hr=true->(x.app σ).heap=σ.heap) /\ ∀ (σ:St),∀ a∈f.ho,(x.app σ).heap[a]?=σ.heap[a]?:=by
    rintro ⟨e1,e2,e3⟩;refine ⟨fun σ t ht => ?_,fun σ hr => ?_,fun σ a ha => ?_⟩
    ·rw [a4f,a2Y (e1 t ht)];rfl
    ·obtain ⟨q1,q2⟩:=e2 hr;simp only [Rec.foot] at q1 q2;rw [a1G,a2t q2];cases hh:x.heap with
     | none=>rfl
     | some _=>rw [hh] at q1;cases q1
    obtain ⟨q1,q2⟩:=e3 a ha;simp only [Rec.foot] at q1 q2;rw [a1G,a5k q2];cases hh:x.heap with
    | none=>rfl
    | some _=>rw [hh] at q1;cases q1
   cases hS:S i <;> cases hS':S' i
   ·exact hrest σ τ h1 h2 h4 h3
   ·obtain ⟨e1,e2,e3⟩:=skipL (hx (by rw [hS,hS'];decide));simp only [if_true,Bool.false_eq_true,if_false];exact hrest _ _ (fun t ht=>by rw [e1 τ t ht];exact h1 t ht) (fun hr=>by rw [e2 τ hr];exact h2 hr) (fun a ha=>by rw [e3 τ a ha];exact h4 a ha) h3
   ·obtain ⟨e1,e2,e3⟩:=skipL (hx (by rw [hS,hS'];decide));simp only [if_true,Bool.false_eq_true,if_false];exact hrest _ _ (fun t ht=>by rw [e1 σ t ht];exact h1 t ht) (fun hr=>by rw [e2 σ hr];exact h2 hr) (fun a ha=>by rw [e3 σ a ha];exact h4 a ha) h3
   simp only [if_true];refine hrest _ _ (fun t ht => ?_) (fun hr => ?_) (fun a ha => ?_) h3
   ·rw [a4f,a4f,h1 t ht]
   ·rw [a1G,a1G,h2 hr]
   rw [a1G,a1G];cases x.heap with
   | none=>exact b0R (h4 a ha)
   | some _=>rfl
def b4Z (acc:List Nat) (o:Oper):Nat:=o.after.toList.foldl (fun s e=>if Region.binds .any e then s ||| 2 ^ e.on ||| acc.getD e.on 0 else s) 0
def a2Z:List Oper->List Nat->List Nat
 | [],acc=>acc
 | o::os,acc=>a2Z os (acc++[b4Z acc o])
def a4O:Nat->List Oper->Bool
 | _,[]=>true
 | i,o::os=>o.after.toList.all (fun e => !Region.binds .any e||decide (e.on<i))&&a4O (i+1) os
def b5a (ms:List Nat) (fs:List Foot):Bool :=
 (List.range fs.length).all fun j=>(List.range j).all fun i=>(ms.getD j 0).testBit i ||
  match fs[i]?,fs[j]? with
  | some x,some y => !(x.clash y) && !(y.clash x)
  | _,_=>true
def a2b (ops:List Oper) (fs:List Foot):Bool:=a4O 0 ops&&b5a (a2Z ops []) fs
def Closed (ops:Array Oper) (S:Nat->Bool):Prop := ∀ (j:Nat) (o:Oper),ops[j]?=some o->S j=true -> ∀ e∈o.after,Region.binds .any e=true->S e.on=true
theorem a3J {acc:List Nat} {i:Nat} : ∀ (l:List Edge) (s:Nat),(l.foldl (fun s e=>if Region.binds .any e then s ||| 2 ^ e.on ||| acc.getD e.on 0 else s) s).testBit i=true ->
  s.testBit i=true \/ ∃ e∈l,Region.binds .any e=true/\(e.on=i\/(acc.getD e.on 0).testBit i=true)
 | [],s,h => .inl h
 | e::r,s,h=>by
   simp only [List.foldl_cons] at h;rcases a3J r _ h with h | ⟨e',he',h1,h2⟩
   ·split at h
    ·rename_i hb;simp only [Nat.testBit_or,Bool.or_eq_true,Nat.testBit_two_pow] at h;rcases h with (h | h) | h
     ·exact .inl h
     ·exact .inr ⟨e,by simp,hb,.inl (by simpa using h)⟩
     exact .inr ⟨e,by simp,hb,.inr h⟩
    exact .inl h
   exact .inr ⟨e',by simp [he'],h1,h2⟩
def b2o (ops:Array Oper) (acc:List Nat):Prop := ∀ (j:Nat) (o:Oper),j<acc.length->ops[j]?=some o -> ∀ i,(acc.getD j 0).testBit i=true -> ∀ S,Closed ops S->(∀ e∈o.after,Region.binds .any e=true->S e.on=true)->S i=true
theorem a9R {ops:Array Oper} : ∀ (l:List Oper) (acc:List Nat),(∀ (k:Nat),ops[acc.length+k]?=l[k]?)->b2o ops acc->b2o ops (a2Z l acc)
 | [],acc,_,h=>h
 | o::os,acc,hl,h=>by
   refine a9R os _ (fun k => ?_) ?_
   ·have:=hl (k+1);simp at this ⊢;rw [<-this];congr 1;omega
   intro j o' hj ho' i hi S hS hpre;by_cases hja:j<acc.length
   ·rw [List.getD_eq_getElem?_getD,zp7 hja,<-List.getD_eq_getElem?_getD] at hi;exact h j o' hja ho' i hi S hS hpre
   have hje:j=acc.length:=by simp at hj;omega
   subst hje;have ho0:=hl 0;simp at ho0;rw [ho0] at ho';injection ho' with ho';subst ho'
   rw [List.getD_eq_getElem?_getD,zp8 (Nat.le_refl _)] at hi;simp [b4Z] at hi;rw [<-Array.foldl_toList] at hi;rcases a3J _ _ hi with hi | ⟨e,he,hb,hi⟩
   ·simp at hi
   have hSe:=hpre e (by simpa using he) hb;rcases hi with rfl | hi
   ·exact hSe
   have hlt:e.on<acc.length:=by
    rcases Nat.lt_or_ge e.on acc.length with h1 | h1
    ·exact h1
    rw [List.getD_eq_getElem?_getD,List.getElem?_eq_none h1] at hi;simp at hi
   cases hoe:ops[e.on]? with
   | none =>
     have h2:acc.length<ops.size:=(Array.getElem?_eq_some_iff.1 ho0).1;rw [Array.getElem?_eq_getElem (by omega)] at hoe;cases hoe
   | some oe=>exact h e.on oe hlt hoe i hi S hS (fun e' he' hb'=>hS e.on oe hoe hSe e' he' hb')
def a1M (P:Program) (m:Nat) (ops:Array Oper) (i:Nat) (σ:St) (x:Rec):Prop :=
 ∀ (τ:St),(∀ t∈x.rd,τ.get t=σ.get t)->(x.hr=true->τ.heap=σ.heap)->(∀ a∈x.ho,τ.heap[a]?=σ.heap[a]?)->τ.n=σ.n->m<=τ.heap.length ->
   m<=(x.app τ).heap.length /\
   ∀ (r:Option Nat) (n:Nat) (G:Gh) (a:Act) (w:World) (Q':Exit->Act->World->Prop) (K:Act->World->Prop),Rel G τ a w ->
     (∀ G' a' w',Rel G' (x.app τ) a' w'->Ext m G w G' w'->K a' w')->wpOpIn (Wd r) n P ops Q' i K a w
inductive DSteps (P:Program) (m:Nat) (ops:Array Oper):Nat->List Oper->St->List Rec->St->Prop
 | nil (i:Nat) (σ:St):DSteps P m ops i [] σ [] σ
 | cons (i:Nat) (o:Oper) (os:List Oper) (σ σ':St) (x:Rec) (xs:List Rec) (h:a1M P m ops i σ x) (hs:DSteps P m ops (i+1) os (x.app σ) xs σ'):DSteps P m ops i (o::os) σ (x::xs) σ'
theorem DSteps.get {P:Program} {m:Nat} {ops:Array Oper} {i:Nat} {l:List Oper} {σ σ':St} {xs:List Rec} (h:DSteps P m ops i l σ xs σ') :
  xs.length=l.length/\σ'=a0s (fun _=>true) i xs σ /\ ∀ (q:Nat) (hq:q<xs.length),a1M P m ops (i+q) (a0s (fun k=>decide (k<i+q)) i xs σ) xs[q]:=by
 induction h with
 | nil i σ=>exact ⟨rfl,rfl,fun q hq=>by simp at hq⟩
 | cons i o os σ σ' x xs h _ ih =>
   obtain ⟨h1,h2,h3⟩:=ih;refine ⟨by simp [h1],by simpa [a0s] using h2,fun q hq => ?_⟩;cases q with
   | zero =>
     have hz : ∀ (l:List Rec) (k:Nat) (τ:St),i<k->a0s (fun k=>decide (k<i+0)) k l τ=τ:=by
      intro l
      induction l with
      | nil=>intro k τ _;rfl
      | cons y r ih =>
        intro k τ hk;simp only [a0s];rw [if_neg (by simp;omega)];exact ih (k+1) τ (by omega)
     simp only [a0s];rw [if_neg (by simp),hz xs (i+1) σ (by omega)];exact h
   | succ q =>
     have:=h3 q (by simpa using hq);simp only [a0s];rw [if_pos (by simp)];rw [show i+(q+1)=i+1+q by omega];simpa using this
theorem a5m {p p':Nat->Bool} {i:Nat} (hp:p i=true) (hp':p' i=false) (hne : ∀ k,k≠i->p' k=p k) : ∀ (l:List Nat),l.Nodup->i∈l->l.countP p'+1=l.countP p
 | [],_,h=>by simp at h
 | k::r,hn,h=>by
   simp at hn;simp only [List.countP_cons];by_cases hk:k=i
   ·subst hk;have:r.countP p'=r.countP p:=List.countP_congr fun q hq=>by rw [hne q (by rintro rfl;exact hn.1 hq)]
    simp [hp,hp',this]
   have ih:=a5m hp hp' hne r hn.2 (by simp at h;rcases h with h | h;exact absurd h.symm hk;exact h)
   rw [hne k hk];omega
theorem a6N (i:Nat) : ∀ (l:List Rec) (σ:St),a0s (fun _=>false) i l σ=σ:=by
 intro l
 induction l generalizing i with
 | nil=>intro σ;rfl
 | cons x r ih=>intro σ;simp only [a0s];exact ih (i+1) σ
theorem AWp.regionD {P:Program} {m:Nat} {ops:Array Oper} {id:Nat} {Q:Exit->St->Prop} {σ σ':St} {xs:List Rec} (hmix:P.follows .mixedOrders=true) (hm0:m<=σ.heap.length)
  (h:DSteps P m ops 0 ops.toList σ xs σ') (hok:a2b ops.toList (xs.map Rec.foot)=true) (hq:Q .normal σ'):AWp P m (.region id ops true) Q σ:=by
 obtain ⟨hlen,hfin,hst⟩:=h.get;have hlen':xs.length=ops.size:=by simpa using hlen
 simp only [a2b,zp4] at hok;obtain ⟨hback,hpair⟩:=hok;have hmask:b2o ops (a2Z ops.toList []):=a9R ops.toList [] (fun k=>by simp) (fun j o hj=>by simp at hj);have hbk : ∀ (j:Nat) (o:Oper),ops[j]?=some o -> ∀ e∈o.after,Region.binds .any e=true->e.on<j:=by
  have gen : ∀ (l:List Oper) (i:Nat),a4O i l=true -> ∀ (k:Nat) (o:Oper),l[k]?=some o -> ∀ e∈o.after,Region.binds .any e=true->e.on<i+k:=by
   intro l
   induction l with
   | nil=>intro i _ k o ho;simp at ho
   | cons o' os ih =>
     intro i hb k o ho e he hbi;simp only [a4O,zp4,List.all_eq_true] at hb;cases k with
     | zero =>
       simp at ho;subst ho;have:=hb.1 e (by simpa using he);simp [hbi] at this;omega
     | succ k =>
       have:=ih (i+1) hb.2 k o (by simpa using ho) e he hbi;omega
  intro j o ho e he hbi;have:=gen ops.toList 0 hback j o (by simpa using ho) e he hbi;omega
 have hpr : ∀ (i j:Nat) (hi:i<xs.length) (hj:j<xs.length),i<j->((a2Z ops.toList []).getD j 0).testBit i=true\/((xs[i]).foot.clash xs[j].foot=false/\(xs[j]).foot.clash xs[i].foot=false):=by
  intro i j hi hj hij;simp only [b5a,List.all_eq_true,List.mem_range,List.length_map] at hpair;have:=hpair j hj i hij;simp only [Bool.or_eq_true] at this;rcases this with h | h
  ·exact .inl h
  right;simpa [List.getElem?_map,zp1 hi,zp1 hj] using h
 intro r n G a w hm R;refine wpIn_region_any hmix ?_

 have key : ∀ (fuel:Nat) (listed:Array Bool) (G1:Gh) (a:Act) (w1:World),listed.size=ops.size->Closed ops (fun k=>listed.getD k false)->(List.range ops.size).countP (fun k => !listed.getD k false)<=fuel ->
   Rel G1 (a0s (fun k=>listed.getD k false) 0 xs σ) a w1->Ext m G w G1 w1->m<=(a0s (fun k=>listed.getD k false) 0 xs σ).heap.length->wpAnyIn (Wd r) n P .any ops (Post m G w Q) fuel listed a w1:=by
  have hgd : ∀ (listed:Array Bool),listed.size=ops.size -> ∀ k,k<ops.size->listed.getD k true=listed.getD k false:=by
   intro listed hsz k hk;have:k<listed.size:=by omega
   simp [Array.getD,this]
  have hall : ∀ (listed:Array Bool),listed.size=ops.size->Region.ready .any ops listed=[] -> ∀ k,k<ops.size->listed.getD k false=true:=by
   intro listed hsz hre k
   induction k using Nat.strongRecOn with
   | _ k ih =>
     intro hk;cases hl:listed.getD k false with
     | true=>rfl
     | false =>
       have:k∈Region.ready .any ops listed:=by
        refine mem_ready.2 ⟨by rw [hgd listed hsz k hk];exact hl,ops[k],Array.getElem?_eq_getElem hk,fun e he hb => ?_⟩;have hlt:=hbk k _ (Array.getElem?_eq_getElem hk) e he hb;exact ih e.on hlt (by omega)
       rw [hre] at this;cases this
  have hdone : ∀ (listed:Array Bool) (G1:Gh) (a:Act) (w1:World),listed.size=ops.size->(∀ k,k<ops.size->listed.getD k false=true)->Rel G1 (a0s (fun k=>listed.getD k false) 0 xs σ) a w1->Ext m G w G1 w1 ->
    m<=(a0s (fun k=>listed.getD k false) 0 xs σ).heap.length->Post m G w Q .normal a w1:=by
   intro listed G1 a w1 hsz hl R1 hE hmh;have e:a0s (fun k=>listed.getD k false) 0 xs σ=σ':=by
    rw [hfin];exact a1z 0 xs σ (fun j _ hj=>hl j (by omega))
   rw [e] at R1 hmh;exact ⟨σ',G1,R1,hE,by rw [<-R1.h.nh];exact hmh,hq⟩
  intro fuel
  induction fuel with
  | zero =>
    intro listed G1 a w1 hsz hcl hcnt R1 hE hmh;have hl : ∀ k,k<ops.size->listed.getD k false=true:=by
     intro k hk;have h0:(List.range ops.size).countP (fun k => !listed.getD k false)=0:=by omega
     have:=List.countP_eq_zero.1 h0 k (List.mem_range.2 hk);simpa using this
    refine ⟨?_,hdone listed G1 a w1 hsz hl R1 hE hmh⟩;cases hre:Region.ready .any ops listed with
    | nil=>rfl
    | cons k rest =>
      have hk:k∈Region.ready .any ops listed:=by rw [hre];simp
      obtain ⟨h1,o,h2,_⟩:=mem_ready.1 hk;have hlt:k<ops.size:=(Array.getElem?_eq_some_iff.1 h2).1;rw [hgd listed hsz k hlt,hl k hlt] at h1;cases h1
  | succ fuel ih =>
    intro listed G1 a w1 hsz hcl hcnt R1 hE hmh;refine ⟨fun hready=>hdone listed G1 a w1 hsz (hall listed hsz hready) R1 hE hmh,fun i hi => ?_⟩;obtain ⟨hun,o,ho,hpre⟩:=mem_ready.1 hi;have hlt:i<ops.size:=(Array.getElem?_eq_some_iff.1 ho).1;rw [hgd listed hsz i hlt] at hun;have hix:i<xs.length:=by omega
    have hpre' : ∀ e∈o.after,Region.binds .any e=true->listed.getD e.on false=true:=hpre

    have hsame:=a4w (fun k=>listed.getD k false) (fun k=>decide (k<0+i)) (xs[i]).foot 0 xs σ σ (fun j hj hne=>by
     simp only [Nat.zero_add] at hne ⊢;rcases Nat.lt_trichotomy j i with h | h | h
     ·have hlj:listed.getD j false=false:=by
       cases hh:listed.getD j false with
       | false=>rfl
       | true=>simp [hh,h] at hne
      rcases hpr j i hj hix h with hb | hb
      ·have:=hmask i o (by
        have:(a2Z ops.toList []).length=ops.size:=by
         have gl : ∀ (l:List Oper) (acc:List Nat),(a2Z l acc).length=acc.length+l.length:=by
          intro l
          induction l with
          | nil=>intro acc;simp [a2Z]
          | cons o os ih=>intro acc;simp [a2Z,ih];omega
         simpa using gl ops.toList []
        omega) ho j hb _ hcl hpre'
       rw [hlj] at this;cases this
      exact Foot.spares_left hb.1
     ·subst h;simp [hun] at hne
     have hlj:listed.getD j false=true:=by
      cases hh:listed.getD j false with
      | true=>rfl
      | false=>simp [hh] at hne;omega
     rcases hpr i j hix hj h with hb | hb
     ·have hoj:ops[j]?=some (ops[j]'(by omega)):=Array.getElem?_eq_getElem (by omega);have:=hmask j _ (by
       have:(a2Z ops.toList []).length=ops.size:=by
        have gl : ∀ (l:List Oper) (acc:List Nat),(a2Z l acc).length=acc.length+l.length:=by
         intro l
         induction l with
         | nil=>intro acc;simp [a2Z]
         | cons o os ih=>intro acc;simp [a2Z,ih];omega
        simpa using gl ops.toList []
       omega) hoj i hb _ hcl (fun e he hbi=>hcl j _ hoj hlj e he hbi)
      have this:listed.getD i false=true:=this;rw [hun] at this;cases this
     exact Foot.spares_left hb.2) (fun _ _=>rfl) (fun _=>rfl) (fun _ _=>rfl) rfl
    have hL:=hst i hix;simp only [Nat.zero_add] at hL hsame;obtain ⟨hmh',hL⟩:=hL (a0s (fun k=>listed.getD k false) 0 xs σ) hsame.1 hsame.2.1 hsame.2.2.1 hsame.2.2.2 hmh;refine hL r n G1 a w1 _ _ R1 fun G' a' w' R' hE' => ?_;have hset : ∀ k,k<ops.size->(listed.setIfInBounds i true).getD k false=(k == 0+i||listed.getD k false):=by
     intro k hk;have hkl:k<listed.size:=by omega
     by_cases hki:k=i
     ·subst hki;simp [Array.getD,hkl]
     have : ¬ i=k:=fun e=>hki e.symm;simp [zp5,Array.getElem?_setIfInBounds_ne this,hki]
    have hal:Alike (a0s (fun k=>(listed.setIfInBounds i true).getD k false) 0 xs σ) ((xs[i]).app (a0s (fun k=>listed.getD k false) 0 xs σ)):=by
     rw [a1z (S':=fun k=>k == 0+i||listed.getD k false) 0 xs σ (fun j _ hj=>hset j (by omega))];refine a5l (fun k=>listed.getD k false) i 0 xs σ hix (by simpa using hun) (fun j hj hij hSj => ?_);simp only [Nat.zero_add] at hSj;rcases hpr i j hix hj hij with hb | hb
     ·have hoj:ops[j]?=some (ops[j]'(by omega)):=Array.getElem?_eq_getElem (by omega);have:=hmask j _ (by
       have:(a2Z ops.toList []).length=ops.size:=by
        have gl : ∀ (l:List Oper) (acc:List Nat),(a2Z l acc).length=acc.length+l.length:=by
         intro l
         induction l with
         | nil=>intro acc;simp [a2Z]
         | cons o os ih=>intro acc;simp [a2Z,ih];omega
        simpa using gl ops.toList []
       omega) hoj i hb _ hcl (fun e he hbi=>hcl j _ hoj hSj e he hbi)
      have this:listed.getD i false=true:=this;rw [hun] at this;cases this
     exact hb.1
    refine ih (listed.setIfInBounds i true) G' a' w' (by simpa using hsz) ?_ ?_ (R'.alike hal.symm) (hE.trans hE') (by rw [hal.heap];exact hmh')
    ·intro j oj hoj hSj e he hb;have hj:j<ops.size:=(Array.getElem?_eq_some_iff.1 hoj).1;have heon:e.on<ops.size:=Nat.lt_trans (hbk j oj hoj e he hb) hj;simp only [hset j hj,Nat.zero_add] at hSj;simp only [hset e.on heon,Nat.zero_add,Bool.or_eq_true];simp only [Bool.or_eq_true,beq_iff_eq] at hSj;rcases hSj with rfl | hSj
     ·rw [ho] at hoj;injection hoj with hoj;subst hoj
      exact .inr (hpre' e he hb)
     exact .inr (hcl j oj hoj hSj e he hb)
    have:=a5m (p:=fun k => !listed.getD k false) (p':=fun k => !(listed.setIfInBounds i true).getD k false) (i:=i) (by simp [hun]) (by
     have:i<listed.size:=by omega
     simp [Array.getD,this]) (fun k hk=>by
      have : ¬ i=k:=fun e=>hk e.symm;simp [zp5,Array.getElem?_setIfInBounds_ne this]) (List.range ops.size) List.nodup_range (List.mem_range.2 hlt)
    omega
 have hrep : ∀ k,(Array.replicate ops.size false).getD k false=false:=by
  intro k;simp only [zp5,Array.getElem?_replicate];split <;> rfl
 have hst0:a0s (fun k=>(Array.replicate ops.size false).getD k false) 0 xs σ=σ:=by
  rw [a1z (S':=fun _=>false) 0 xs σ (fun j _ _=>hrep j),a6N]
 refine key ops.size (Array.replicate ops.size false) G a _ (by simp) (fun j o _ hS=>by simp only [hrep] at hS;cases hS) ?_ (by rw [hst0];exact R.drew rfl) (Ext.drew (w1:=_) rfl rfl rfl) (by rw [hst0];exact hm0);exact Nat.le_trans List.countP_le_length (by simp)
section
variable {P:Program} {T:a0m} {m:Nat} {ops:Array Oper} {an:Ann} {σ:St} {i:Nat} {o:Oper}
theorem a3g {τ:St} (h : ∀ t∈a0q ops.toList o,τ.get t=σ.get t):a1L ops.toList τ o=a1L ops.toList σ o:=by
 unfold a1L;cases hg:o.guard with
 | none=>rfl
 | some p =>
   obtain ⟨j,b⟩:=p;simp only;cases hd:(ops.toList[j]?).bind (·.dst) with
   | none=>rfl
   | some d =>
     have:τ.get d=σ.get d:=h d (by
      unfold a0q;simp only [hg,List.mem_append];right;rw [hd];simp)
     simp only [this]
theorem a7Z {g g':Nat->AV} {rd:List Nat} (h : ∀ t∈rd,g' t=g t):only rd g'=only rd g:=by
 funext t;unfold only;split
 ·rename_i hc;exact h t (by simpa using hc)
 rfl
theorem a8a {A:Ar} {n:Nat} {g:Nat->AV} {H H':List Obj} {a:Nat} {ss:a1p} (hl:b8O g o=some a) (hH:H[a]?=H'[a]?) (h:a1U A T an n g H o=some (ss,none)):a1U A T an n g H' o=some (ss,none):=by
 unfold b8O at hl;split at hl
 ·rename_i t i hop;split at hl
  ·rename_i a' off hg;cases hl;have e1:a3C A T an n g o=none:=by
    unfold a3C;cases o.dst with
    | none=>rfl
    | some d=>simp only [hop];split <;> rfl
   have e2 : ∀ H,a1T A T an n g H o=none:=fun H=>by unfold a1T;simp only [hop]
   have e4 : ∀ H,a6u A T an n g H o=none:=fun H=>by unfold a6u;simp only [hop]
   have e7 : ∀ H,a6x A T n g H o=none:=fun H=>by unfold a6x;simp only [hop]
   have e5 : ∀ H,a6w A T an n g H o=none:=fun H=>by unfold a6w;simp only [hop,hg]
   have e6 : ∀ H,a6v A T an n g H o=none:=fun H=>by unfold a6v;simp only [hop,hg]
   unfold a1U at h ⊢;rw [e1,e7,e4,e6,e5,e2] at h ⊢;simp only at h ⊢;have e3:a0H A T n g H o=a0H A T n g H' o:=by
    unfold a0H;simp only [hop,a4F,a1A,hg,hH];split <;> try rfl
    rename_i heq;split at heq
    ·cases heq;simp only [hH]
    cases heq
   rw [<-e3];cases hob:a0H A T n g H o with
   | some r=>rw [hob] at h;exact h
   | none =>
     rw [hob] at h;simp only at h ⊢;unfold a0B at h ⊢;simp only [hop,adr,hg] at h ⊢;cases hT:T t with
     | none=>rw [hT] at h;exact h
     | some td =>
       rw [hT] at h;simp only at h ⊢;rw [<-hH];split at h <;> try (first | exact h | cases h)
       split at h <;> try (first | exact h | cases h)
       split at h
       ·exfalso;simp only [Option.map_eq_some_iff] at h;obtain ⟨p,_,hp⟩:=h;cases hp
       rename_i hc;rw [if_neg hc];exact h
  cases hl
 cases hl
theorem a1M.op (hT:TOk P T) (ho:ops[i]?=some o) {u:Upd} (hw:a1L ops.toList σ o=some true) (he:b3K Ar.std T an ops.toList σ o=some u) :
  a1M P m ops i σ { sets:=u.sets,heap:=u.heap,rd:=u.rd,hr:=u.hr,ho:=u.ho,low:=[] }:=by
 intro τ hrd hhr hho hn hm;have hu:=he;unfold b3K at he;simp only at he

 have fin : ∀ (ss:a1p) (h:Option (List Obj)) (H:List Obj),u.sets=ss->u.heap=h->u.rd=a7n σ.get ops.toList o->(∀ (i:Nat) (ob:Obj),H[i]?=some ob->τ.heap[i]?=some ob)->(a0M an (only (a7n σ.get ops.toList o) σ.get) o=true->H=τ.heap)->(h.isSome=true->H=τ.heap) ->
   a1U Ar.std T an τ.n (only (a7n σ.get ops.toList o) τ.get) H o=some (ss,h) ->
   m<=(Rec.app τ { sets:=u.sets,heap:=u.heap,rd:=u.rd,hr:=u.hr,ho:=u.ho,low:=[] }).heap.length /\
   ∀ (r:Option Nat) (n:Nat) (G:Gh) (a:Act) (w:World) (Q':Exit->Act->World->Prop) (K:Act->World->Prop),Rel G τ a w ->
   (∀ G' a' w',Rel G' (Rec.app τ { sets:=u.sets,heap:=u.heap,rd:=u.rd,hr:=u.hr,ho:=u.ho,low:=[] }) a' w'->Ext m G w G' w'->K a' w')->wpOpIn (Wd r) n P ops Q' i K a w:=by
  rintro ss h H rfl rfl hrdu hH hHe hHs hev';have hrd' : ∀ t∈a7n σ.get ops.toList o,τ.get t=σ.get t:=by rw [<-hrdu];exact hrd
  have e1:only (a7n σ.get ops.toList o) τ.get=only (a7n σ.get ops.toList o) σ.get:=a7Z hrd';have hw':a1L ops.toList τ o=some true:=by
   rw [a3g (σ:=σ) (τ:=τ) (fun t ht=>hrd' t (by unfold a7n;simp [ht]))];exact hw
  have hless:Less (only (a7n σ.get ops.toList o) τ.get) τ:=by
   intro t;unfold only;split
   ·exact .inl rfl
   exact .inr rfl
  have hstep:=a7U hT hless (fun d hd=>by
   unfold only;rw [if_pos];simp [a7n,a0q,hd]) hH (fun hh=>hHe (by rw [e1] at hh;exact hh)) hev'
  have hlen:τ.heap.length<=(τ.upd u.sets u.heap).heap.length:=by
   cases hh:u.heap with
   | none=>exact Nat.le_refl _
   | some H' =>
     rw [hh] at hev';rw [hHs (by rw [hh];rfl)] at hev';exact a6f hev'
  have happ:Rec.app τ { sets:=u.sets,heap:=u.heap,rd:=u.rd,hr:=u.hr,ho:=u.ho,low:=[] }=τ.upd u.sets u.heap:=rfl;rw [happ];refine ⟨Nat.le_trans hm hlen,fun r n G a w Q' K R hK => ?_⟩;unfold wpOpIn;simp only [ho];rw [if_pos (a2k hw' R)];exact hstep r n m G a w Q' K (by rw [<-R.h.nh];exact hm) R hK
 have key : ∀ (rd:List Nat),rd=u.rd->u.rd=a7n σ.get ops.toList o->only (a7n σ.get ops.toList o) τ.get=only (a7n σ.get ops.toList o) σ.get:=by
  rintro rd _ hrdu;exact a7Z (by rw [<-hrdu];exact hrd)
 split at he
 ·rename_i a hloc;split at he
  ·rename_i ss hev;cases he;have e1:=key _ rfl rfl;refine fin ss none τ.heap rfl rfl rfl (fun _ _ h=>h) (fun _=>rfl) (fun _=>rfl) ?_;rw [e1,hn];exact a8a hloc (hho a (by simp)).symm hev
  ·rename_i ss h hev;cases he;have e1:=key _ rfl rfl;refine fin ss (some h) τ.heap rfl rfl rfl (fun _ _ h=>h) (fun _=>rfl) (fun _=>rfl) ?_;rw [e1,hn,hhr rfl];exact hev
  cases he
 split at he
 ·rename_i ss h hev;split at he
  ·rename_i hcond;cases he;have e1:=key _ rfl rfl;refine fin ss h (if a0M an (only (a7n σ.get ops.toList o) σ.get) o then τ.heap else []) rfl rfl rfl (fun i ob hob => ?_) (fun hh=>by rw [if_pos hh]) (fun hs => ?_) ?_
   ·split at hob
    ·exact hob
    simp at hob
   ·cases h with
    | none=>cases hs
    | some H'=>rw [if_pos (by simpa using hcond)]
   rw [e1,hn];cases hh:a0M an (only (a7n σ.get ops.toList o) σ.get) o with
   | true=>rw [if_pos rfl,hhr hh];simpa [hh] using hev
   | false=>simpa [hh] using hev
  cases he
 cases he
theorem a1M.skip (ho:ops[i]?=some o) {d:Nat} (hw:a1L ops.toList σ o=some false) (hd:o.dst=some d) (hlt:d<σ.n) (hb:(σ.get d).isBox=false) :
  a1M P m ops i σ { sets:=[(d,.tuple [])],heap:=none,rd:=a0q ops.toList o,hr:=false,ho:=[],low:=[] }:=by
 intro τ hrd _ _ hn hm;refine ⟨hm,fun r n G a w Q' K R hK => ?_⟩;have hdm:d∈a0q ops.toList o:=by simp [a0q,hd]
 unfold wpOpIn;simp only [ho];rw [a2k (b:=false) (by rw [a3g (σ:=σ) hrd];exact hw) R,if_neg (by simp)];refine ⟨fun _ _=>trivial,?_⟩;rw [hd];exact hK G _ w (R.put (.tuple _ _ #[] rfl (fun i hi=>by simp at hi) (fun c hc=>by simp at hc)) (fun r off e=>by cases e) (by rw [hrd d hdm];exact hb) (by rw [hn];exact hlt)) (Ext.refl _ _ _)
theorem a5n {τ:St} (h : ∀ t∈a0q ops.toList o,τ.get t=σ.get t):a2a T τ o=a2a T σ o:=by
 unfold a2a;cases hop:o.op <;> try rfl
 rename_i c;obtain ⟨callee,args,ts⟩:=c;cases callee with
 | value x =>
   simp only;have hsl : ∀ t,(Operand.tmp t=x\/Operand.tmp t∈args)->τ.get t=σ.get t:=by
    intro t ht;refine h t ?_;unfold a0q;simp only [hop,Op.operands,Call.operands,List.mem_append,List.mem_flatMap];left;left;rcases ht with rfl | ht
    ·exact ⟨.tmp t,by simp,by simp [a3z]⟩
    exact ⟨.tmp t,by simp [ht],by simp [a3z]⟩
   have e1 : ∀ (ps:List (Operand×TypeId)),(∀ p∈ps,p.1∈args)->(ps.mapM fun p=>opv T τ.get p.2 p.1)=ps.mapM fun p=>opv T σ.get p.2 p.1:=by
    intro ps
    induction ps with
    | nil=>intro _;rfl
    | cons p r ih =>
      intro hp;simp only [List.mapM_cons];rw [ih (fun q hq=>hp q (by simp [hq]))];have:opv T τ.get p.2 p.1=opv T σ.get p.2 p.1:=by
       cases hp1:p.1 with
       | tmp t=>simp only [opv];rw [hsl t (.inr (by have:=hp p (by simp);rw [hp1] at this;exact this))]
       | _=>rfl
      rw [this]
   have e2:(args.toList.zip ts.toList).mapM (fun p=>opv T τ.get p.2 p.1)=(args.toList.zip ts.toList).mapM fun p=>opv T σ.get p.2 p.1:=e1 _ (fun p hp=>by
    have:=(List.of_mem_zip hp).1;simpa using this)
   rw [e2];cases x with
   | tmp t=>simp only [hsl t (.inl rfl)]
   | _=>rfl
 | invoke x name =>
   cases x with
   | tmp t =>
     simp only;have hsl : ∀ s,(s=t\/Operand.tmp s∈args)->τ.get s=σ.get s:=by
      intro s hs;refine h s ?_;unfold a0q;simp only [hop,Op.operands,Call.operands,List.mem_append,List.mem_flatMap];left;left;rcases hs with rfl | hs
      ·exact ⟨.tmp s,by simp,by simp [a3z]⟩
      exact ⟨.tmp s,by simp [hs],by simp [a3z]⟩
     have e1 : ∀ (ps:List (Operand×TypeId)),(∀ p∈ps,p.1∈args)->(ps.mapM fun p=>opv T τ.get p.2 p.1)=ps.mapM fun p=>opv T σ.get p.2 p.1:=by
      intro ps
      induction ps with
      | nil=>intro _;rfl
      | cons p r ih =>
        intro hp;simp only [List.mapM_cons];rw [ih (fun q hq=>hp q (by simp [hq]))];have:opv T τ.get p.2 p.1=opv T σ.get p.2 p.1:=by
         cases hp1:p.1 with
         | tmp t=>simp only [opv];rw [hsl t (.inr (by have:=hp p (by simp);rw [hp1] at this;exact this))]
         | _=>rfl
        rw [this]
     have e2:(args.toList.zip ts.toList).mapM (fun p=>opv T τ.get p.2 p.1)=(args.toList.zip ts.toList).mapM fun p=>opv T σ.get p.2 p.1:=e1 _ (fun p hp=>by
      have:=(List.of_mem_zip hp).1;simpa using this)
     rw [e2,hsl t (.inl rfl)]
   | _=>rfl
 | _=>rfl
theorem a1M.call (hT:TOk P T) (ho:ops[i]?=some o) {f:FuncId} {args:List AV} {r:AV} {d:Nat} (hw:a1L ops.toList σ o=some true) (hcall:a2a T σ o=some (f,args)) (hargs:a3G 0 args=true)
  (hd:o.dst=some d) (hlt:d<σ.n) (hb:(σ.get d).isBox=false) (hfr:args.all AV.free=true) (hc:a0j P f args [] r []) :
  a1M P m ops i σ { sets:=[(d,r)],heap:=none,rd:=a0q ops.toList o,hr:=false,ho:=[],low:=[] }:=by
 intro τ hrd _ _ hn hm;refine ⟨hm,fun rr n G a w Q' K R hK => ?_⟩;have hdm:d∈a0q ops.toList o:=by simp [a0q,hd]
 have hbτ:(τ.get d).isBox=false:=by rw [hrd d hdm];exact hb
 unfold wpOpIn;simp only [ho];rw [if_pos (a2k (b:=true) (by rw [a3g (σ:=σ) hrd];exact hw) R)];obtain ⟨hcb,hrl,hri,hin',hHH,hcc⟩:=hc;obtain ⟨hnd,vs,hrun,hvs,hrep⟩:=a5j hT (by rw [a5n (σ:=σ) hrd];exact hcall) hcb R;have RH:RelH G ([]++τ.heap) w:=R.h;have hRh:=RH.handed (H:=[]) rfl;have hfr' : ∀ c∈args,c.free=true:=by simpa using hfr
 have hsub:Sub G (G.handed 0) w w (fun ℓ=>ℓ = .no) 0 :=
  ⟨KLe.refl _,fun b ℓ f hl hO=>absurd (hl▸rfl) (R.h.sane.no b ℓ f hO),fun _ _=>rfl,Nat.le_refl _⟩
 refine ⟨fun _ _=>trivial,?_⟩;rw [Oper.semAt_eq _ _ _ hnd,hrun];refine ⟨fun hh=>by simp [Wd] at hh,?_⟩;refine CallsIn.mono (a4c (hcc (n-1) (G.handed 0) w vs hvs (fun i hi => ?_) hRh (fun b ℓ f hO => ?_))) ?_
 ·exact (hrep i hi).sub R.h.sane hsub rfl (a0T hargs i hi) (AV.free_isLocal (hfr' _ (zp6 hi)))
 ·have:=(a2F hO).2;cases ℓ <;> simp [a1d] at this
 rintro e w' ⟨v,G3,rfl,hv,R3,hE⟩;obtain ⟨R',hext⟩:=R.back (H:=[]) (rest:=τ.heap) rfl (.inr rfl) hHH R3 hE hin' hv hrl hri (by rw [hn];exact hlt) hbτ;show K (a.put o.dst v) w';rw [hd];refine hK _ _ w' ?_ (hext m (by rw [<-R.h.nh];exact hm));simpa [Rec.app,St.upd,a0t,a2O] using R'
end
inductive OutD where
 | done (σ:St) (xs:List Rec)
 | call (f:FuncId) (args:List AV) (o:Oper) (rest:List Oper) (σ:St) (xs:List Rec)
 | yield (y:Nat) (args:List AV) (o:Oper) (rest:List Oper) (σ:St) (xs:List Rec)
 | stuck
def b4n (σ:St) (o:Oper) (h:Option (List Obj)):Option Nat :=
 match o.op with
 | .store _ (.tmp s) _ =>
   match σ.get s,h with
   | .eptr a _ _ _,some _=>some a
   | _,_=>none
 | _=>none
def a8b (A:Ar) (T:a0m) (an:Ann) (all:List Oper):List Oper->St->List Rec->OutD
 | [],σ,xs => .done σ xs
 | o::os,σ,xs =>
   match a1L all σ o with
   | some true =>
     match a2a T σ o with
     | some (f,args) => .call f args o os σ xs
     | none =>
       match b0Q T σ o with
       | some (y,args) => .yield y args o os σ xs
       | none =>
       match b3K A T an all σ o with
       | some u =>
         match b4n σ o u.heap with
         | some a=>a8b A T an all os (σ.upd u.sets u.heap) (xs++[{ sets:=u.sets,heap:=none,rd:=u.rd,hr:=true,ho:=u.ho,low:=(u.heap.getD []).take (a+1) }])
         | none=>a8b A T an all os (σ.upd u.sets u.heap) (xs++[{ sets:=u.sets,heap:=u.heap,rd:=u.rd,hr:=u.hr,ho:=u.ho,low:=[] }])
       | none => .stuck
   | some false =>
     match o.dst with
     | some d=>if decide (d<σ.n) && !(σ.get d).isBox then a8b A T an all os (σ.upd [(d,.tuple [])] none) (xs++[{ sets:=[(d,.tuple [])],heap:=none,rd:=a0q all o,hr:=false,ho:=[],low:=[] }]) else .stuck
     | none => .stuck
   | none => .stuck
def a1t (P:Program) (m:Nat) (ops:Array Oper) (l:List Oper) (xs:List Rec) (K:St->Prop) (σ:St):Prop :=
 ∃ (ys:List Rec) (σ':St),DSteps P m ops xs.length l σ ys σ'/\a2b ops.toList ((xs++ys).map Rec.foot)=true/\K σ'
section
variable {P:Program} {T:a0m} {m:Nat} {ops:Array Oper} {an:Ann} {K:St->Prop} {l:List Oper} {xs:List Rec} {σ:St}
theorem a1t.nil (hok:a2b ops.toList (xs.map Rec.foot)=true) (h:K σ):a1t P m ops [] xs K σ:=⟨[],σ,.nil _ _,by simpa using hok,h⟩
theorem a1t.cons {o:Oper} {x:Rec} (hs:a1M P m ops xs.length σ x) (h:a1t P m ops l (xs++[x]) K (x.app σ)):a1t P m ops (o::l) xs K σ:=by
 obtain ⟨ys,σ',h1,h2,h3⟩:=h;refine ⟨x::ys,σ',.cons _ _ _ _ _ _ _ hs (by simpa using h1),by simpa using h2,h3⟩
theorem b5Y {ops:Array Oper} {o:Oper} {l:List Oper} {k:Nat} (hl:o::l=ops.toList.drop k):ops[k]?=some o/\l=ops.toList.drop (k+1):=by
 have h0:(ops.toList.drop k)[0]?=some o:=by rw [<-hl];rfl
 simp at h0;refine ⟨h0,?_⟩;have:=congrArg (List.drop 1) hl;simpa [List.drop_drop,Nat.add_comm] using this
def a6O (P:Program) (m:Nat) (ops:Array Oper) (T:a0m) (K:St->Prop):OutD->Prop
 | .done σ xs=>a2b ops.toList (xs.map Rec.foot)=true/\K σ
 | .call f args o rest σ xs=>a2a T σ o=some (f,args)->a1L ops.toList σ o=some true->ops[xs.length]?=some o->a1t P m ops (o::rest) xs K σ
 | .yield y args o rest σ xs=>b0Q T σ o=some (y,args)->a1L ops.toList σ o=some true->ops[xs.length]?=some o->a1t P m ops (o::rest) xs K σ
 | .stuck=>False
theorem a5o {A:Ar} {an:Ann} {n:Nat} {g:Nat->AV} {H h:List Obj} {o:Oper} {t:TypeId} {s:Nat} {y:Operand} {a k:Nat} {i:Int} {j:Nat} {ss:a1p} (hop:o.op = .store t (.tmp s) y) (hg:g s = .eptr a k i j)
  (he:a1U A T an n g H o=some (ss,some h)) : ∃ ob,h=H.set a ob:=by
 have e1:a3C A T an n g o=none:=by
  unfold a3C;cases o.dst with
  | none=>rfl
  | some d=>simp only [hop];split <;> rfl
 have e2:a1T A T an n g H o=none:=by unfold a1T;simp only [hop]
 have e4:a6u A T an n g H o=none:=by unfold a6u;simp only [hop]
 have e7:a6x A T n g H o=none:=by unfold a6x;simp only [hop]
 have e6:a6v A T an n g H o=none:=by unfold a6v;simp only [hop,hg]
 unfold a1U at he;rw [e1,e7,e4,e6] at he;cases hG:a6w A T an n g H o with
 | some r =>
   rw [hG] at he;simp only at he;subst he;unfold a6w at hG;simp only [hop,hg] at hG
   repeat' split at hG
   all_goals first
    | (cases hG;done)
    | (cases hG;exact ⟨_,rfl⟩)
 | none =>
 rw [hG,e2] at he;simp only at he;have e3:a4F g H (.tmp s) = .eptr a k i j:=by simp [a4F,a1A,hg]
 unfold a0H at he;simp only [hop,e3] at he
 repeat' split at he
 all_goals first
  | (cases he;done)
  | (cases he;exact ⟨_,rfl⟩)
theorem b2p {u:Upd} {a:Nat} {ob:Obj} {σ τ:St} (hh:u.heap=some (σ.heap.set a ob)) (hτ:true=true->τ.heap=σ.heap) :
  Rec.app τ { sets:=u.sets,heap:=none,rd:=u.rd,hr:=true,ho:=u.ho,low:=(u.heap.getD []).take (a+1) }=τ.upd u.sets u.heap:=by
 have hτ:=hτ rfl;unfold Rec.app;rw [hh];simp only [Option.getD_some,St.upd];congr 1;unfold a2O;rw [hτ];by_cases ha:a<σ.heap.length
 ·rw [show ((σ.heap.set a ob).take (a+1)).length=a+1 by simp;omega];have:σ.heap.drop (a+1)=(σ.heap.set a ob).drop (a+1):=by rw [List.drop_set,if_pos (by omega)]
  rw [Option.getD_none,this,List.take_append_drop]
 rw [List.set_eq_of_length_le (by omega),Option.getD_none,List.take_of_length_le (by omega)];simp
theorem a1M.low {i:Nat} {u:Upd} {a:Nat} {ob:Obj} (hh:u.heap=some (σ.heap.set a ob))
  (h:a1M P m ops i σ { sets:=u.sets,heap:=u.heap,rd:=u.rd,hr:=u.hr,ho:=u.ho,low:=[] }) :
  a1M P m ops i σ { sets:=u.sets,heap:=none,rd:=u.rd,hr:=true,ho:=u.ho,low:=(u.heap.getD []).take (a+1) }:=by
 intro τ hrd hhr hho hn hm;have:=h τ hrd (fun _=>hhr rfl) hho hn hm;rw [b2p hh hhr];exact this
theorem b2q {A:Ar} {an:Ann} {all:List Oper} {o:Oper} {u:Upd} {a:Nat} (hl:b4n σ o u.heap=some a) (he:b3K A T an all σ o=some u) : ∃ ob,u.heap=some (σ.heap.set a ob):=by
 unfold b4n at hl;split at hl <;> try cases hl
 rename_i t s y hop;obtain ⟨k,i,j,h,hg,huh⟩ : ∃ k i j h,σ.get s = .eptr a k i j/\u.heap=some h:=by
  cases hg:σ.get s with
  | eptr a' k i j =>
    cases hu:u.heap with
    | none=>rw [hg,hu] at hl;cases hl
    | some h=>rw [hg,hu] at hl;cases hl;exact ⟨_,_,_,_,rfl,rfl⟩
  | _=>rw [hg] at hl;simp at hl
 clear hl;unfold b3K at he;simp only at he;have hin:(only (a7n σ.get all o) σ.get) s=σ.get s:=by
  unfold only;rw [if_pos];simp [a7n,a0q,hop,Op.operands,a3z]
 split at he
 ·rename_i a' hho;simp [b8O,hop] at hho
 split at he
 ·rename_i ss h' hev;split at he
  ·rename_i hcond;cases he;cases h' with
   | none=>cases huh
   | some H' =>
     cases huh;have hhr:a0M an (only (a7n σ.get all o) σ.get) o=true:=by simpa using hcond
     rw [if_pos hhr] at hev;obtain ⟨ob,e⟩:=a5o hop (by rw [hin];exact hg) hev;exact ⟨ob,by rw [e]⟩
  cases he
 cases he
theorem a1t.run (hT:TOk P T) : ∀ (l:List Oper) (xs:List Rec) (σ:St),l=ops.toList.drop xs.length->a6O P m ops T K (a8b Ar.std T an ops.toList l σ xs)->a1t P m ops l xs K σ
 | [],xs,σ,_,h=>a1t.nil h.1 h.2
 | o::os,xs,σ,hl,h=>by
   obtain ⟨ho,hl'⟩:=b5Y hl;unfold a8b at h;cases hw:a1L ops.toList σ o with
   | none=>simp [hw,a6O] at h
   | some b =>
     cases b with
     | true =>
       simp only [hw] at h;cases hc:a2a T σ o with
       | some p =>
         obtain ⟨f,args⟩:=p;simp only [hc] at h;exact h hc hw ho
       | none =>
         simp only [hc] at h;cases hy:b0Q T σ o with
         | some p =>
           obtain ⟨y,args⟩:=p;simp only [hy] at h;exact h hy hw ho
         | none =>
         simp only [hy] at h;cases he:b3K Ar.std T an ops.toList σ o with
         | none=>simp [he,a6O] at h
         | some u =>
           simp only [he] at h;cases hlo:b4n σ o u.heap with
           | none =>
             simp only [hlo] at h;exact a1t.cons (a1M.op hT ho hw he) (a1t.run hT os _ _ (by simpa using hl') h)
           | some a =>
             simp only [hlo] at h;obtain ⟨ob,hh⟩:=b2q hlo he;refine a1t.cons (a1M.low hh (a1M.op hT ho hw he)) (a1t.run hT os _ _ (by simpa using hl') ?_);rw [b2p hh (fun _=>rfl)];exact h
     | false =>
       simp only [hw] at h;cases hd:o.dst with
       | none=>simp [hd,a6O] at h
       | some d =>
         simp only [hd] at h;split at h
         ·rename_i hc;simp at hc;exact a1t.cons (a1M.skip ho hw hd hc.1 hc.2) (a1t.run hT os _ _ (by simpa using hl') h)
         exact h.elim
theorem a1t.done (hT:TOk P T) {σ':St} {xs':List Rec} (hl:l=ops.toList.drop xs.length) (h : ∀ A:Ar,A=Ar.std->a8b A T an ops.toList l σ xs = .done σ' xs') (hok:a2b ops.toList (xs'.map Rec.foot)=true) (hq:K σ'):a1t P m ops l xs K σ :=
 a1t.run (an:=an) hT l xs σ hl (by rw [h _ rfl];exact ⟨hok,hq⟩)
theorem a1t.stepCall (hT:TOk P T) {f:FuncId} {args:List AV} {o:Oper} {rest:List Oper} {σ1:St} {xs1:List Rec} {r:AV} {d:Nat} (hl:l=ops.toList.drop xs.length) (h : ∀ A:Ar,A=Ar.std->a8b A T an ops.toList l σ xs = .call f args o rest σ1 xs1)
  (hargs:a3G 0 args=true) (hd:o.dst=some d) (hlt:d<σ1.n) (hb:(σ1.get d).isBox=false) (hfr:args.all AV.free=true) (hc:a0j P f args [] r [])
  (k:a1t P m ops rest (xs1++[{ sets:=[(d,r)],heap:=none,rd:=a0q ops.toList o,hr:=false,ho:=[],low:=[] }]) K (σ1.upd [(d,r)] none)):a1t P m ops l xs K σ :=
 a1t.run (an:=an) hT l xs σ hl (by
  rw [h _ rfl];exact fun hcall hw ho=>a1t.cons (a1M.call hT ho hw hcall hargs hd hlt hb hfr hc) k)
theorem AWp.regionDraw {id:Nat} {Q:Exit->St->Prop} (hmix:P.follows .mixedOrders=true) (hm:m<=σ.heap.length) (h:a1t P m ops ops.toList [] (Q .normal) σ):AWp P m (.region id ops true) Q σ:=by
 obtain ⟨ys,σ',h1,h2,h3⟩:=h;exact AWp.regionD hmix hm h1 h2 h3
theorem a1B.stepCall (hT:TOk P T) {Q:Exit->St->Prop} {f:FuncId} {args:List AV} {o:Oper} {rest:List Oper} {σ1:St} {H Hr H':List Obj} {r:AV} {d:Nat} (h : ∀ A:Ar,A=Ar.std->a7X A T an ops.toList l σ = .call f args o rest σ1)
  (hm:m<=σ.heap.length) (hH:σ1.heap=H++Hr) (hr:Hr=[]\/H'.length=H.length) (hin:a0u H.length H=true) (hargs:a3G H.length args=true) (hd:o.dst=some d) (hlt:d<σ1.n) (hb:(σ1.get d).isBox=false)
  (hfr:args.all AV.free=true) (hc:a0j P f args H r H') (k:a1B P m ops rest Q { σ1 with env:=a2z σ1.env d r,heap:=H'++Hr }):a1B P m ops l Q σ :=
 a1B.run (an:=an) hT l σ hm (by
  rw [h _ rfl];intro hcall hw;refine a1B.call hT hw hcall hH hr hin hargs hd hlt hb hfr hc ?_;intro r n G a w Q' hm' R hQ;exact k r n G a w Q' hm' R (fun e a' w' hp=>by
   obtain ⟨σ',G',R',hE,hm'',hq⟩:=hp;exact hQ e a' w' ⟨σ',G',R',hE,hm'',fun _=>hq⟩))
end
section
variable {P:Program} {T:a0m} {m:Nat} {Q:Exit->St->Prop} {σ σ':St} {ops:Array Oper} {an:Ann} {id:Nat} {c:Code}
theorem AWp.reg1 (an:Ann) (hT:TOk P T) (h : ∀ A:Ar,A=Ar.std->a7X A T an ops.toList ops.toList σ = .done σ') (hm:m<=σ.heap.length) (k:Q .normal σ'):AWp P m (.region id ops false) Q σ :=
 AWp.region (a1B.done hT (an:=an) h hm k)
theorem AWp.reg1D (an:Ann) (hT:TOk P T) (hmix:P.follows .mixedOrders=true) {xs:List Rec} (h : ∀ A:Ar,A=Ar.std->a8b A T an ops.toList ops.toList σ [] = .done σ' xs) (hok:a2b ops.toList (xs.map Rec.foot)=true) (hm:m<=σ.heap.length) (k:Q .normal σ'):AWp P m (.region id ops true) Q σ :=
 AWp.regionDraw hmix hm (a1t.done hT (an:=an) rfl h hok k)
end
theorem RepV.fewer {G:Gh} {w:World} {k:Nat} {ℓ:Loc} {av:AV} {v:Value} (h:RepV G w ℓ av v):av.inb k=true->RepV { G with nh:=k } w ℓ av v:=by
 have tail : ∀ {ℓ:Loc} {k':Nat} {v:Value},b1i G w ℓ k' v->b1i { G with nh:=k } w ℓ k' v:=fun h=>h
 induction h with
 | undef ℓ v=>exact fun _ => .undef ℓ v
 | abool ℓ b=>exact fun _ => .abool ℓ b
 | d ℓ x v h=>exact fun _ => .d ℓ x v h
 | ptr ℓ a off ha=>intro hb;simp [AV.inb] at hb;exact RepV.ptr (G:={ G with nh:=k }) ℓ a off hb
 | nilptr ℓ=>exact fun _ => .nilptr ℓ
 | iptr ℓ cs b off vs hK h1 h=>exact fun _ => .iptr ℓ cs b off vs hK h1 h
 | own ℓ k l v h ht=>exact fun _ => .own ℓ k l v h (tail ht)
 | lim ℓ k l v h ht=>exact fun _ => .lim ℓ k l v h ht
 | tail ℓ k l v h ht=>exact fun _ => .tail ℓ k l v h ht
 | func ℓ f as bs va vb ha hb _ _ hc hc' ih ih' =>
   intro hbl;simp [AV.inb] at hbl;exact .func ℓ f as bs va vb ha hb (fun i hi=>ih i hi (a0T hbl.1 i hi)) (fun i hi=>ih' i hi (a0T hbl.2 i hi)) hc hc'
 | nilfunc ℓ=>exact fun _ => .nilfunc ℓ
 | yield ℓ l hl=>intro hb;simp [AV.inb] at hb;exact RepV.yield (G:={ G with nh:=k }) ℓ l hb
 | map ℓ a ha=>intro hb;simp [AV.inb] at hb;exact RepV.map (G:={ G with nh:=k }) ℓ a hb
 | nilmap ℓ=>exact fun _ => .nilmap ℓ
 | lbox t cs vs e hO hw hs _ hc ih =>
   intro hbl;simp [AV.inb] at hbl;exact RepV.lbox (G:={ G with nh:=k }) t cs vs e hO hw hs (fun j hj=>ih j hj (a0T hbl j hj)) hc
 | place ℓ r off=>exact fun _=>RepV.place (G:={ G with nh:=k }) ℓ r off
 | mref ℓ a k' lo n b off cap ha h1 h2 h3 h4=>intro hb;simp [AV.inb] at hb;exact RepV.mref (G:={ G with nh:=k }) ℓ a k' lo n b off cap hb h1 h2 h3 h4
 | mcap ℓ a k' lo n c b off cap ha h1 h2 h3 h4 h5=>intro hb;simp [AV.inb] at hb;exact RepV.mcap (G:={ G with nh:=k }) ℓ a k' lo n c b off cap hb h1 h2 h3 h4 h5
 | gref ℓ a k' p ha hc hq=>intro hb;simp [AV.inb] at hb;exact RepV.gref (G:={ G with nh:=k }) ℓ a k' p hb hc hq
 | fresh ℓ k l v h=>exact fun _ => .fresh ℓ k l v h
 | junk ℓ v h=>exact fun _ => .junk ℓ v h
 | eptr ℓ a k' i j ha hi=>intro hb;simp [AV.inb] at hb;exact RepV.eptr (G:={ G with nh:=k }) ℓ a k' i j hb hi
 | vptr ℓ a k' i j m z ha hi hz hm=>intro hb;simp [AV.inb] at hb;exact RepV.vptr (G:={ G with nh:=k }) ℓ a k' i j m z hb hi hz hm
 | agg ℓ cs vs hs _ hc hf ih =>
   intro hbl;simp [AV.inb] at hbl;exact .agg ℓ cs vs hs (fun i hi=>ih i hi (a0T hbl i hi)) hc hf
 | tuple ℓ cs vs hs _ hc ih =>
   intro hbl;simp [AV.inb] at hbl;exact .tuple ℓ cs vs hs (fun i hi=>ih i hi (a0T hbl i hi)) hc
theorem RelH.fewer {G:Gh} {H:List Obj} {w:World} (R:RelH G H w) {k:Nat} (hk:k<=H.length) (hb:a0u k (H.take k)=true):RelH { G with nh:=k } (H.take k) w:=by
 have hsub:Sub G { G with nh:=k } w w (fun _=>True) k:=⟨KLe.refl _,fun b ℓ f _ hO=>⟨hO,rfl⟩,fun _ _=>rfl,Nat.le_refl _⟩
 refine ⟨⟨R.sane.no⟩,by simp;omega,fun i ob hob => ?_,R.kept,R.disj⟩;have hi:i<k:=by have:=(zp2.1 hob).1;simp at this;omega
 rw [List.getElem?_take_of_lt hi] at hob;exact (R.objs i ob hob).sub R.sane hi hsub trivial (fun _=>trivial) (a2H hb i ob (by rw [List.getElem?_take_of_lt hi];exact hob))
def St.fit (σ:St) (ts:List Nat) (k:Nat):St:={ σ with env:=a7Y σ.env ts,heap:=σ.heap.take k }
def St.fits (σ:St) (ts:List Nat) (k:Nat):Bool:=Nat.ble k σ.heap.length&&a3G k ((a7Y σ.env ts).map (·.2))&&a0u k (σ.heap.take k)
theorem Rel.fit {G:Gh} {σ:St} {a:Act} {w:World} (R:Rel G σ a w) {ts:List Nat} {k:Nat} (h:σ.fits ts k=true):Rel { G with nh:=k } (σ.fit ts k) a w:=by
 simp only [St.fits,zp4,Nat.ble_eq] at h;obtain ⟨⟨h1,h2⟩,h3⟩:=h;have R':=R.keep ts;exact ⟨R.h.fewer h1 h3,R'.size,fun t=>(R'.slots t).fewer (a5g h2 t),R'.places,R'.df⟩
theorem Ext.nh {m:Nat} {G G':Gh} {w w':World} (h:Ext m G w G' w') (k:Nat):Ext m G w { G' with nh:=k } w':=⟨h.K,h.new,h.others,h.size,h.β,h.io⟩
section
variable {P:Program} {T:a0m} {m:Nat} {Q:Exit->St->Prop} {σ:St} {c:Code}
theorem AWp.fit (ts:List Nat) (k:Nat) (hm:m<=k) (hf:σ.fits ts k=true) (h:AWp P m c Q (σ.fit ts k)):AWp P m c Q σ:=by
 intro r n G a w hm' R;refine wpIn_mono (h r n _ a w hm (R.fit hf)) ?_;rintro e a' w' ⟨σ',G',R',hE,hm'',hQ⟩;exact ⟨σ',G',R',⟨hE.K,hE.new,hE.others,hE.size,hE.β,hE.io⟩,hm'',hQ⟩
theorem AWp.cut {x y:Code} (R:St->Prop) (h:AWp P m x (AExit.then R Q) σ) (k : ∀ σ',R σ'->AWp P m y Q σ'):AWp P m (.seq x y) Q σ:=by
 refine AWp.seq (AWp.mono h ?_);intro e σ' hq;cases e with
 | normal=>exact k σ' hq
 | _=>exact hq
end
section
variable {P:Program} {T:a0m} {m i:Nat} {ops:Array Oper} {σ:St} {o:Oper} {an:Ann}
theorem a6h {H:List Obj} : ∀ {τ:List Obj},(∀ a,a<H.length->τ[a]?=H[a]?) -> ∃ rest,τ=H++rest:=by
 induction H with
 | nil=>intro τ _;exact ⟨τ,rfl⟩
 | cons x H ih =>
   intro τ h;cases τ with
   | nil=>have:=h 0 (by simp);simp at this
   | cons y τ =>
     have h0:=h 0 (by simp);simp at h0;subst h0;obtain ⟨rest,rfl⟩:=ih (τ:=τ) (fun a ha=>by have:=h (a+1) (by simp;omega);simpa using this);exact ⟨rest,rfl⟩
theorem a1M.callL (hT:TOk P T) (ho:ops[i]?=some o) {f:FuncId} {args:List AV} {r:AV} {H rest H':List Obj} {d:Nat} (hw:a1L ops.toList σ o=some true) (hcall:a2a T σ o=some (f,args)) (hH:σ.heap=H++rest)
  (hl:H'.length=H.length) (hin:a0u H.length H=true)
  (hargs:a3G H.length args=true) (hd:o.dst=some d) (hlt:d<σ.n) (hb:(σ.get d).isBox=false) (hfr:args.all AV.free=true) (hc:a0j P f args H r H') :
  a1M P m ops i σ { sets:=[(d,r)],heap:=none,rd:=a0q ops.toList o,hr:=false,ho:=List.range H.length,low:=H' }:=by
 intro τ hrd _ hho hn hm;obtain ⟨rest',hheap⟩ : ∃ rest',τ.heap=H++rest':=a6h (fun a ha=>by
  rw [hho a (List.mem_range.2 ha),hH,zp7 ha])
 have happ:a2O H' τ.heap=H'++rest':=by unfold a2O;rw [hheap,hl,List.drop_left]
 obtain ⟨hcb,hrl,hri,hin',hHH,hcc⟩:=hc;refine ⟨by rw [a1G];exact Nat.le_trans hm (b2n _ _),fun rr n G a w Q' K R hK => ?_⟩;have hdm:d∈a0q ops.toList o:=by simp [a0q,hd]
 have hbτ:(τ.get d).isBox=false:=by rw [hrd d hdm];exact hb
 unfold wpOpIn;simp only [ho];rw [if_pos (a2k (b:=true) (by rw [a3g (σ:=σ) hrd];exact hw) R)];obtain ⟨hnd,vs,hrun,hvs,hrep⟩:=a5j hT (by rw [a5n (σ:=σ) hrd];exact hcall) hcb R;have RH:RelH G (H++rest') w:=by rw [<-hheap];exact R.h
 have hRh:=RH.handed hin;have hfr' : ∀ c∈args,c.free=true:=by simpa using hfr
 have hsub:Sub G (G.handed H.length) w w (fun ℓ=>ℓ = .no) H.length :=
  ⟨KLe.refl _,fun b ℓ f hl hO=>absurd (hl▸rfl) (R.h.sane.no b ℓ f hO),fun _ _=>rfl,Nat.le_refl _⟩
 refine ⟨fun _ _=>trivial,?_⟩;rw [Oper.semAt_eq _ _ _ hnd,hrun];refine ⟨fun hh=>by simp [Wd] at hh,?_⟩;refine CallsIn.mono (a4c (hcc (n-1) (G.handed H.length) w vs hvs (fun i hi => ?_) hRh (fun b ℓ f hO => ?_))) ?_
 ·exact (hrep i hi).sub R.h.sane hsub rfl (a0T hargs i hi) (AV.free_isLocal (hfr' _ (zp6 hi)))
 ·have:=(a2F hO).2;cases ℓ <;> simp [a1d] at this
  ·rename_i i;exact ⟨i,rfl⟩
  rename_i i j;exact ⟨i,rfl⟩
 rintro e w' ⟨v,G3,rfl,hv,R3,hE⟩;obtain ⟨R',hext⟩:=R.back (H:=H) (rest:=rest') hheap (.inr hl) hHH R3 hE hin' hv hrl hri (by rw [hn];exact hlt) hbτ;show K (a.put o.dst v) w';rw [hd];refine hK _ _ w' ?_ (hext m (by rw [<-R.h.nh];exact hm));simpa [Rec.app,St.upd,a0t,happ] using R'
variable {K:St->Prop} {l:List Oper} {xs:List Rec}
theorem a1t.stepCallL (hT:TOk P T) {f:FuncId} {args:List AV} {o:Oper} {rest:List Oper} {σ1:St} {xs1:List Rec} {r:AV} {H Hr H':List Obj} {d:Nat} (hl:l=ops.toList.drop xs.length) (h : ∀ A:Ar,A=Ar.std->a8b A T an ops.toList l σ xs = .call f args o rest σ1 xs1)
  (hH:σ1.heap=H++Hr) (hr:H'.length=H.length) (hin:a0u H.length H=true) (hargs:a3G H.length args=true) (hd:o.dst=some d) (hlt:d<σ1.n) (hb:(σ1.get d).isBox=false) (hfr:args.all AV.free=true) (hc:a0j P f args H r H')
  (k:a1t P m ops rest (xs1++[{ sets:=[(d,r)],heap:=none,rd:=a0q ops.toList o,hr:=false,ho:=List.range H.length,low:=H' }]) K (σ1.upd [(d,r)] (some (H'++Hr)))):a1t P m ops l xs K σ :=
 a1t.run (an:=an) hT l xs σ hl (by
  rw [h _ rfl];exact fun hcall hw ho=>a1t.cons (a1M.callL hT ho hw hcall hH hr hin hargs hd hlt hb hfr hc) (by
   have:Rec.app σ1 { sets:=[(d,r)],heap:=none,rd:=a0q ops.toList o,hr:=false,ho:=List.range H.length,low:=H' }=σ1.upd [(d,r)] (some (H'++Hr)):=by
    simp only [Rec.app,St.upd,Option.getD_none,Option.getD_some,a2O,hH,hr,List.drop_left]
   rw [this];exact k))
end
set_option linter.unusedVariables false
def D.scalar:D->Bool
 | .int .. | .bool _ | .str _ | .iface _=>true
 | _=>false
theorem RepD.scalar {K K':Addr->Option Value} {x:D} {v:Value} (hs:x.scalar=true) (h:RepD K x v):RepD K' x v:=by
 cases h <;> first | (simp [D.scalar] at hs;done) | constructor
def scalars (l:List D):Bool:=l.all fun x=>x.cells.all D.scalar
theorem a8c {l:List D} (h:scalars l=true) : ∀ x∈D.flat l,x.scalar=true:=by
 intro x hx;unfold D.flat at hx;obtain ⟨y,hy,hxy⟩:=List.mem_flatMap.1 hx;have:=List.all_eq_true.1 h y hy;exact List.all_eq_true.1 this x hxy
theorem a0j.thaw {P:Program} {f:FuncId} {args:List AV} {k:Nat} {l:List D} (hc:a0j P f args [] (.own k l) []) (hargs:a3G 0 args=true) (hfree:args.all AV.free=true) (hl:l≠[]) (hs:scalars l=true)
  {H:List Obj} (hin:a0u (H.length+1) (H++[.arr k l])=true) {n:Int} (hn:(l.length:Int)=n):a0j P f args H (.mref H.length k 0 n) (H++[.arr k l]):=by
 obtain ⟨h1,_,_,_,_,h⟩:=hc;refine ⟨h1,rfl,by simp [AV.inb],by simpa using hin,by simp,?_⟩;intro N G w vs hvs hrep R hO;have R0:=R.handed (H:=[]) (rest:=H) rfl;have hsub:Sub G (G.handed 0) w w (fun ℓ=>ℓ = .no) 0 :=
  ⟨KLe.refl _,fun b ℓ f hl hO=>absurd (hl▸rfl) (R.sane.no b ℓ f hO),fun _ _=>rfl,Nat.le_refl _⟩
 have hfree' : ∀ c∈args,c.free=true:=by simpa using hfree
 have hnone : ∀ b,(G.handed 0).O b=none:=fun b=>a2G (by intro ℓ f _;cases ℓ <;> simp [a1d]);refine CallsIn.mono (h N (G.handed 0) w vs hvs (fun i hi=>(hrep i hi).sub R.sane hsub rfl (a0T hargs i hi) (AV.free_isLocal (hfree' _ (zp6 hi)))) R0 (fun b ℓ f hb=>by rw [hnone] at hb;cases hb)) ?_;rintro e w' ⟨v,G3,rfl,hv,R3,hE⟩;cases hv with | own _ _ _ _ hr ht =>
 rcases hr.slice with ⟨rfl,_⟩ | ⟨b,off,cap,hvv⟩
 ·exact absurd rfl hl
 have hlen:0<l.length:=List.length_pos_iff.2 hl;have hcap:l.length<=cap:=by
  rw [hvv] at hr;generalize hv':Value.slice (some ⟨b,off,none⟩) l.length cap=v at hr;cases hr with
  | nil=>simp at hv'
  | none0=>simp
  | list k l b' off' cap' vs hu hc=>simp at hv';omega
 obtain ⟨fr,c,e0,t1,t2,t3,t4,t5⟩:=ht _ _ _ hvv (by omega);dsimp only at t1 t2 t3 t4 t5;subst t5

 have hnew:w.heap.size<=b:=by
  rcases Nat.lt_or_ge b w.heap.size with hb | hb
  ·have:=(hE.others b hb (hnone b)).2;rw [this] at t1;cases t1
  exact hb
 have hblt:b<w'.heap.size:=(Array.getElem?_eq_some_iff.1 t3).1;have hold : ∀ b',b'<w.heap.size->w'.heap[b']?=w.heap[b']?:=fun b' hb=>(hE.others b' hb (hnone b')).1;let G':Gh:={ K:=G.K,O:=fun x=>if x=b then some (.o H.length,0) else G.O x,β:=fun r=>if r = .o H.length then b else G.β r,nh:=H.length+1 }
 have hnh:H.length=G.nh:=R.nh;have hβold : ∀ i,i<H.length->G'.β (.o i)=G.β (.o i):=by
  intro i hi;simp only [G',Root.o.injEq];rw [if_neg (by omega)]
 have hOold : ∀ b' x f',G.O b'=some (x,f')->G'.O b'=some (x,f'):=by
  intro b' x f' h;have:=(R.disj b' x f' h).1;simp only [G'];rw [if_neg (by omega)];exact h
 have hpr:Pres G G' w w' (fun _=>True) :=
  ⟨KLe.refl _,fun b' x f' _ h=>⟨hOold b' x f' h,hold b' (R.disj b' x f' h).1⟩,fun i hi=>hβold i (by omega),by simp only [G'];omega⟩
 obtain ⟨hu,hK,hKK,h1c,hh⟩:a0o k l /\ ∃ vs:Nat->Value,(∀ j,j<(D.flat l).length->G3.K ⟨b,0+j,none⟩=some (vs j))/\(∀ j,j<(D.flat l).length->(vs j).oneCell'=true) /\ ∀ (j:Nat) (hj:j<(D.flat l).length),RepD G3.K (D.flat l)[j] (vs j):=by
  rw [hvv] at hr;generalize hv':Value.slice (some ⟨b,0,none⟩) l.length cap=v at hr;cases hr with
  | nil=>simp at hv'
  | none0=>exact absurd rfl hl
  | list k l b' off' cap' vs hu hc hK h1 hh =>
    simp at hv';obtain ⟨⟨rfl,rfl⟩,_⟩:=hv';exact ⟨hu,vs,hK,h1,hh⟩
 have hfl:=a0b hu;have hsz:(D.flat l).length<=c.size:=by
  have:l.length*k<=cap*k:=Nat.mul_le_mul_right k hcap;omega
 have hcell : ∀ j,j<(D.flat l).length->c.getD j Go.undef=hK j:=by
  intro j hj;have:=R3.kept _ _ (hKK j hj);rw [Nat.zero_add] at this;have h2:=a0X t3 (show j<c.size by omega);rw [this] at h2;exact (Option.some.inj h2).symm
 refine ⟨v,G',rfl,?_,⟨⟨fun b' ℓ f' h => ?_⟩,by simp [G'],fun i ob hob => ?_,fun x v h => ?_,fun b' ℓ f' h => ?_⟩,⟨KLe.refl _,fun x v h => .inl h,fun b' hb hO'=>⟨hold b' hb,?_⟩,hE.size,fun i hi=>hβold i hi,hE.io⟩⟩
 ·rw [hvv,<-hn];have:=RepV.mref (G:=G') (w:=w') .ret H.length k 0 (l.length:Int) b 0 cap (by simp [G']) (Int.le_refl _) (by omega) (by simpa using hcap) (fun _=>⟨by simp [G'],by simp⟩);simpa using this
 ·simp only [G'] at h;split at h
  ·simp at h;rw [<-h.1];simp [Loc.root]
  exact R.sane.no b' ℓ f' h
 ·rcases Nat.lt_or_ge i H.length with hi | hi
  ·rw [zp7 hi] at hob;exact (R.objs i ob hob).pres R.sane (by omega) hpr trivial (fun _=>trivial)
  have hi':i=H.length:=by
   have:=(zp2.1 hob).1;simp at this;omega
  subst hi';simp at hob;subst hob;refine ⟨c,e0,by simp [G'],by simpa [G'] using t3,hu,hsz,fun j hj => ?_,fun j hj => ?_⟩
  ·rw [hcell j hj];exact h1c j hj
  rw [hcell j hj];exact (hh j hj).scalar (a8c hs _ (zp6 hj))
 ·have hx:=R.kept x v h;have hb:=World.block_lt_of_cell? w _ hx;unfold World.cell? at *
  rwa [hold _ hb]
 ·simp only [G'] at h ⊢;split at h
  ·rename_i hbe;subst hbe;refine ⟨hblt,fun j _ => ?_⟩;cases hK:G.K ⟨b',j,none⟩ with
   | none=>rfl
   | some v => 
     have:=World.block_lt_of_cell? w _ (R.kept _ _ hK);simp at this;omega
  have:=R.disj b' ℓ f' h;exact ⟨by have:=hE.size;omega,this.2⟩
 simp only [G'];rw [if_neg (by omega)];exact hO'
theorem Rel.freeze {G:Gh} {σ:St} {a:Act} {w:World} (R:Rel G σ a w) {s i k:Nat} {lo n:Int} {l:List D} (hs:σ.get s = .mref i k lo n) (hi:σ.heap[i]?=some (.arr k l)) (hfit:lo+n<=l.length) :
  ∃ G',Rel G' { σ with env:=a2z σ.env s (.d (.list k (Ar.std.sub l lo (lo+n)))),heap:=σ.heap.set i .dead } a w /\ ∀ m,Ext m G w G' w:=by
 have hrep:=R.slots s;rw [hs] at hrep;generalize hv:a.tmps.getD s Go.undef=v at hrep;cases hrep with | mref _ _ _ _ _ b off cap hnh hlo hn hcap hbo =>
 obtain ⟨vs,e,hO,hw,hu,hsz,h1,hh⟩:=R.h.objs i _ hi;have hil:i<σ.heap.length:=(zp2.1 hi).1;have hfl:=a0b hu;let B:=G.β (.o i);let G':Gh:={ G with K:=fun x=>if x.block=B/\x.spot=none/\x.off<(D.flat l).length then some (vs.getD x.off Go.undef) else G.K x,O:=fun x=>if x=B then none else G.O x }
 have hdisj:=R.h.disj _ _ _ hO;have hKle:KLe G.K G'.K:=by
  intro x v h;simp only [G'];rw [if_neg];exact h;rintro ⟨hb,hsp,_⟩;obtain ⟨xb,xo,xs⟩:=x;simp at hb hsp;subst hb hsp;rw [hdisj.2 xo (Nat.zero_le _)] at h;cases h
 have hOold : ∀ b' x f',x ≠ .o i->G.O b'=some (x,f')->G'.O b'=some (x,f'):=by
  intro b' x f' hx h;have:b'≠B:=by rintro rfl;rw [show G.O B=_ from hO] at h;simp at h;exact hx h.1.symm
  simp only [G'];rw [if_neg this];exact h
 have hpr:Pres G G' w w (fun x=>x ≠ .o i) :=
  ⟨hKle,fun b' x f' hx h=>⟨hOold b' x f' hx h,rfl⟩,fun _ _=>rfl,Nat.le_refl _⟩
 have hkept : ∀ x v,G'.K x=some v->w.cell? x=some v:=by
  intro x v h;simp only [G'] at h;split at h
  ·rename_i hc;obtain ⟨xb,xo,xs⟩:=x;obtain ⟨h1',h2',h3'⟩:=hc;simp at h1' h2' h3' h;subst h1' h2';rw [a0X hw (by omega)];simpa using h
  exact R.h.kept x v h
 obtain ⟨LO,rfl⟩:=zp9 hlo;obtain ⟨N,rfl⟩:=zp9 hn;have hsubl:Ar.std.sub l LO (LO+N)=(l.drop LO).take N:=by
  simp only [Ar.std];congr 1
  all_goals omega

 have hlist:RepD G'.K (.list k ((l.drop LO).take N)) (.slice (some ⟨b,off,none⟩) N cap):=by
  by_cases hN:N=0
  ·subst hN;simp only [List.take_zero];exact RepD.empty _ _ _ _ _
  obtain ⟨rfl,rfl⟩:=hbo (by omega);simp only [Int.toNat_natCast];have hus:=hu.sub LO N;have hln:((l.drop LO).take N).length=N:=by simp;omega
  have hfe:D.flat ((l.drop LO).take N)=((D.flat l).drop (LO*k)).take (N*k):=by
   rw [a0W (fun x hx=>hu x (List.mem_of_mem_drop hx)),a1x hu]
  have hflN:=a0b hus;have hmul:LO*k+N*k<=l.length*k:=by rw [<-Nat.add_mul];exact Nat.mul_le_mul_right _ (by omega)
  have hgetj : ∀ (j:Nat) (hj:j<(D.flat ((l.drop LO).take N)).length),(D.flat ((l.drop LO).take N))[j]=(D.flat l)[LO*k+j]'(by rw [hflN,hln] at hj;omega):=by
   intro j hj;simp only [hfe,List.getElem_take,List.getElem_drop]
  have:=RepD.list (K:=G'.K) k ((l.drop LO).take N) (G.β (.o i)) (LO*k) cap (fun j=>vs.getD (LO*k+j) Go.undef) hus (by rw [hln];simpa using hcap)
   (fun j hj=>by
    rw [hflN,hln] at hj;have hjj:LO*k+j<(D.flat l).length:=by omega
    simp [G',B,hjj])
   (fun j hj=>by rw [hflN,hln] at hj;exact h1 _ (by omega))
   (fun j hj=>by
    rw [hgetj j hj];rw [hflN,hln] at hj;exact (hh _ (by omega)).mono hKle)
  rwa [hln] at this
 refine ⟨G',⟨⟨⟨fun b' x f' h => ?_⟩,by simpa [G'] using R.h.nh,fun i' ob hob => ?_,hkept,fun b' x f' h => ?_⟩,R.size,fun t => ?_,fun t r off' ht => ?_,?_⟩,fun m=>⟨hKle,fun x v h => ?_,fun b' hb h=>⟨rfl,?_⟩,Nat.le_refl _,fun _ _=>rfl,rfl,rfl,fun _ _=>rfl,rfl,Nat.le_refl _⟩⟩
 ·simp only [G'] at h;split at h
  ·cases h
  exact R.h.sane.no b' x f' h
 ·by_cases hii:i=i'
  ·subst hii;simp [List.getElem?_set_self hil] at hob;subst hob;trivial
  simp only at hob;rw [List.getElem?_set_ne hii] at hob;exact (R.h.objs i' ob hob).pres R.h.sane (by rw [<-R.h.nh];exact (zp2.1 hob).1) hpr (by simp;exact fun e=>hii e.symm) (by simp)
 ·simp only [G'] at h ⊢;split at h
  ·cases h
  rename_i hne;refine ⟨(R.h.disj b' x f' h).1,fun j hj => ?_⟩;rw [if_neg (by intro hc;exact hne hc.1)];exact (R.h.disj b' x f' h).2 j hj
 ·simp only [St.get,a0e];split
  ·rename_i e';subst e';rw [hv,hsubl];exact .d _ _ _ (by simpa using hlist)
  exact (R.slots t).pres R.h.sane hpr (by simp) (fun _ _ _=>rfl) (fun t' e' _=>⟨rfl,fun j=>by simp⟩)
 ·simp only [St.get,a0e] at ht ⊢;split at ht
  ·cases ht
  obtain ⟨cs,hcs⟩:=R.places t r off' ht;refine ⟨cs,?_⟩;split
  ·rename_i e';subst e';rw [show σ.get s = .lbox cs from hcs] at hs;cases hs
  exact hcs
 ·refine ⟨R.df.1,fun x hx => ?_⟩;obtain ⟨r0,h1,h2,h3⟩:=R.df.2 x hx;exact ⟨r0,h1,hOold _ _ _ (by simp) h2,h3⟩
 ·simp only [G'] at h;split at h
  ·rename_i hc;exact .inr (.inl ⟨_,by rw [hc.1];exact hO⟩)
  exact .inl h
 simp only [G'];split
 ·rfl
 exact h
def AV.placeOf (s:Nat):AV->Bool
 | .place r _=>r == s
 | _=>false
theorem noPlace {s:Nat} : ∀ {env:List (Nat×AV)},env.all (fun p => !p.2.placeOf s)=true -> ∀ t off,a1S env t ≠ .place s off
 | [],_,t,off=>by simp [a1S]
 | (u,v)::r,h,t,off=>by
   simp only [List.all_cons,zp4] at h;simp only [a1S];split
   ·rintro rfl;simp [AV.placeOf] at h
   exact noPlace h.2 t off
section
variable {P:Program} {m:Nat} {Q:Exit->St->Prop} {σ:St} {c:Code}
theorem AWp.freeze {s i k:Nat} {lo n:Int} {l l':List D} (hs:σ.get s = .mref i k lo n) (hi:σ.heap[i]?=some (.arr k l)) (hfit:lo+n<=l.length) (hl:Ar.std.sub l lo (lo+n)=l')
  (h:AWp P m c Q { σ with env:=a2z σ.env s (.d (.list k l')),heap:=σ.heap.set i .dead }):AWp P m c Q σ:=by
 intro r n' G a w hm R;obtain ⟨G',R',hE⟩:=R.freeze hs hi hfit;rw [hl] at R';refine wpIn_mono (h r n' G' a w (by have h1:=R'.h.nh;have h2:=R.h.nh;simp at h1;omega) R') ?_;rintro e a' w' ⟨σ',G2,R2,hE2,hm2,hQ⟩;exact ⟨σ',G2,R2,(hE m).trans hE2,hm2,hQ⟩
theorem a1B.freeze {ops:Array Oper} {os:List Oper} {s i k:Nat} {lo n:Int} {l l':List D} (hs:σ.get s = .mref i k lo n) (hi:σ.heap[i]?=some (.arr k l)) (hfit:lo+n<=l.length) (hl:Ar.std.sub l lo (lo+n)=l')
  (h:a1B P m ops os Q { σ with env:=a2z σ.env s (.d (.list k l')),heap:=σ.heap.set i .dead }):a1B P m ops os Q σ:=by
 intro r n' G a w Q' hm R hQ;obtain ⟨G',R',hE⟩:=R.freeze hs hi hfit;rw [hl] at R';refine h r n' G' a w Q' (by have h1:=R'.h.nh;have h2:=R.h.nh;simp at h1;omega) R' ?_;rintro e a' w' ⟨σ',G2,R2,hE2,hm2,hq⟩;exact hQ e a' w' ⟨σ',G2,R2,(hE m).trans hE2,hm2,hq⟩
end
section
variable {P:Program} {T:a0m} {m:Nat} {Q:Exit->St->Prop} {σ:St} {ops:Array Oper} {o:Oper} {l:List Oper} {an:Ann}
end
section
variable {P:Program} {T:a0m} {m i:Nat} {ops:Array Oper} {σ:St} {o:Oper} {an:Ann}
variable {K:St->Prop} {l:List Oper} {xs:List Rec}
end
theorem a8d {P:Program} {f:FuncId} (hc:callable P f=true) (args:Array Value) (w:World):(callFunc f args).run P w = .ok (.enter f args) w:=by
 unfold callable at hc;unfold callFunc;simp only [Sem.run_bind,run_program,Result.andThen_ok];split at hc
 ·rename_i fn hfn';simp at hc;rw [hfn'];simp [hc.1,Option.isSome_iff_ne_none.1 hc.2]
 cases hc
def St.laid (σ:St) (ts:List Nat) (ps:Array Tmp) (assign body:Code):ALoop :=
 { st := .ready,pending:=none,env:=ts.map (fun t=>(t,(σ.get t).copy)),n:=σ.n,params:=ps,assign:=assign,body:=body }
theorem a0a {α β:Type} {o:Option α} {f:α->Option β} {r:β} (h:o.bind f=some r) : ∃ v,o=some v/\f v=some r:=by
 cases o with
 | none=>cases h
 | some v=>exact ⟨v,rfl,h⟩
theorem cT {α:Type} {c:Bool} {x y r:α} (e:c=true) (h:cond c x y=r):x=r:=by subst e;exact h
theorem cF {α:Type} {c:Bool} {x y r:α} (e:c=false) (h:cond c x y=r):y=r:=by subst e;exact h
theorem eL {α β γ:Type} {f:α->γ} {g:β->γ} {v:α} {r:γ} (h:Sum.elim f g (.inl v)=r):f v=r:=h
theorem eR {α β γ:Type} {f:α->γ} {g:β->γ} {v:β} {r:γ} (h:Sum.elim f g (.inr v)=r):g v=r:=h
theorem soI {α:Type} {x y:α} (h:some x=some y):x=y:=Option.some.inj h
structure Cod (τ:Type) where
 un:D->Option τ
 en:τ->D
 ok : ∀ x v,un x=some v->x=en v
 ko : ∀ v,un (en v)=some v
def cI (k:IntKind):Cod Int where
 un | .int k' n=>if k'=k then some n else none
    | _=>none
 en n := .int k n
 ok x v h:=by
  cases x <;> simp at h;obtain ⟨rfl,rfl⟩:=h;rfl
 ko v:=by simp
def cB:Cod Bool where
 un | .bool b=>some b
    | _=>none
 en b := .bool b
 ok x v h:=by cases x <;> simp at h;subst h;rfl
 ko v:=rfl
def cS:Cod ByteArray where
 un | .str b=>some b
    | _=>none
 en b := .str b
 ok x v h:=by cases x <;> simp at h;subst h;rfl
 ko v:=rfl
def cL (k:Nat):Cod (List D) where
 un | .list k' l=>if k'=k then some l else none
    | _=>none
 en l := .list k l
 ok x v h:=by
  cases x <;> simp at h;obtain ⟨rfl,rfl⟩:=h;rfl
 ko v:=by simp
structure CodL (τ:Type) where
 un:List D->Option τ
 en:τ->List D
 ok : ∀ x v,un x=some v->x=en v
 ko : ∀ v,un (en v)=some v
def l1 {τ:Type} (c:Cod τ):CodL τ where
 un | [x]=>c.un x
    | _=>none
 en v:=[c.en v]
 ok x v h:=by
  match x,h with
  | [y],h=>rw [c.ok y v h]
 ko v:=c.ko v
def lc {τ ρ:Type} (c:Cod τ) (d:CodL ρ):CodL (τ×ρ) where
 un | x::r=>(c.un x).bind fun a=>(d.un r).map fun b=>(a,b)
    | []=>none
 en v:=c.en v.1::d.en v.2
 ok x v h:=by
  match x,h with
  | y::r,h =>
    obtain ⟨a,h1,h⟩:=a0a h;simp only [Option.map_eq_some_iff] at h;obtain ⟨b,h2,rfl⟩:=h;rw [c.ok y a h1,d.ok r b h2]
 ko v:=by simp [c.ko,d.ko]
def cG {τ:Type} (d:CodL τ):Cod τ where
 un | .agg l=>d.un l
    | _=>none
 en v := .agg (d.en v)
 ok x v h:=by
  cases x <;> simp at h;rw [d.ok _ v h]
 ko v:=d.ko v
def cA:Cod (List D) where
 un | .agg l=>some l
    | _=>none
 en l := .agg l
 ok x v h:=by
  cases x <;> simp at h;subst h;rfl
 ko v:=rfl
theorem b5Z {T:a0m} {σ:St} {own:Bool} {t ty i k:Nat} {l:List D} {td:TD} (h1:σ.get t = .ptr i 0) (h2:σ.heap[i]?=some (.arr k l)) (h3:T ty=some td) (h4:td.isAgg=true) (h5:l.length=td.size) (h6:l.all D.isOne=true) :
  a3H T σ own (.cell t ty)=some (.d (.agg l)):=by
 simp only [a3H,h1,h3,h2];rw [if_pos ⟨trivial,h4,h5,h6⟩]
theorem lnN {A:Ar} (hA:A=Ar.std) {l:List D} {n:Nat} (h:A.zeq (A.len l) (Int.ofNat n)=true):l.length=n:=by
 subst hA;simp [Ar.std] at h;omega
theorem onN {A:Ar} (hA:A=Ar.std) {l:List D} (h:A.ones l=true):l.all D.isOne=true:=by subst hA;exact h
theorem lnF {A:Ar} (hA:A=Ar.std) {l:List D} {n:Nat} (h:l.length=n):A.zeq (A.len l) (Int.ofNat n)=true:=by subst hA h;simp [Ar.std]
def ga (A:Ar) (l:List D) (p n:Int):Option (List D):=bif A.zle (A.zadd p n) (A.len l) then bif A.ones (A.sub l p (A.zadd p n)) then some (A.sub l p (A.zadd p n)) else none else none
theorem gaI {A:Ar} {l x:List D} {p n:Int} (h:ga A l p n=some x):A.zle (A.zadd p n) (A.len l)=true/\A.sub l p (A.zadd p n)=x/\A.ones x=true:=by
 unfold ga at h;cases h1:A.zle (A.zadd p n) (A.len l) <;> cases h2:A.ones (A.sub l p (A.zadd p n)) <;> simp [h1,h2] at h;subst h;exact ⟨rfl,rfl,h2⟩
def gd {τ:Type} (A:Ar) (c:CodL τ) (l:List D) (p n:Int):Option τ:=(ga A l p n).bind c.un
theorem gdI {τ:Type} {A:Ar} {c:CodL τ} {l:List D} {p n:Int} {v:τ} (h:gd A c l p n=some v):A.zle (A.zadd p n) (A.len l)=true/\A.sub l p (A.zadd p n)=c.en v/\A.ones (c.en v)=true:=by
 obtain ⟨x,h1,h2⟩:=a0a h;obtain ⟨q1,q2,q3⟩:=gaI h1;rw [c.ok _ _ h2] at q2 q3;exact ⟨q1,q2,q3⟩
def gc {τ:Type} (A:Ar) (c:Cod τ) (l:List D) (i:Nat):Option τ:=(A.lget l i).bind c.un
theorem gcI {τ:Type} {A:Ar} {c:Cod τ} {l:List D} {i:Nat} {v:τ} (h:gc A c l i=some v):A.lget l i=some (c.en v):=by
 obtain ⟨x,h1,h2⟩:=a0a h;rw [h1,c.ok x v h2]
@[irreducible] def fuel:Nat:=1000000
theorem tf (b:Bool):b=true\/b=false:=by cases b <;> simp
theorem lb {a b:Nat} (h:Nat.ble a b=true):a<=b:=Nat.le_of_ble_eq_true h
def jn {α ρ:Type} (k:α->Option ρ) (f:(α->Option ρ)->Option ρ):Option ρ:=f k
theorem jnI {α ρ:Type} {k:α->Option ρ} {f:(α->Option ρ)->Option ρ} {r:ρ} (h:jn k f=some r) : ∃ K:α->Option ρ,(∀ v,K v=some r->k v=some r)/\f K=some r:=⟨k,fun _ h=>h,h⟩
theorem a0Q {α ρ:Type} {o:Option α} {f:α->Option ρ} {r:ρ} (h:o.bind f=some r) : ∃ x,o=some x /\ ∃ K:α->Option ρ,(∀ y,K y=some r->f y=some r)/\K x=some r:=by
 obtain ⟨x,h1,h2⟩:=a0a h;exact ⟨x,h1,f,fun _ h=>h,h2⟩
open Classical in
noncomputable def both {ρ:Type} (a b:Option ρ):Option ρ:=a.bind fun x=>b.bind fun y=>if x=y then some x else none
theorem b9C {ρ:Type} {a b:Option ρ} {r:ρ} (h:both a b=some r):a=some r/\b=some r:=by
 obtain ⟨x,h1,h⟩:=a0a h;obtain ⟨y,h2,h⟩:=a0a h;split at h
 ·rename_i e;subst e;rw [soI h] at h1 h2;exact ⟨h1,h2⟩
 cases h
def gt {τ:Type} (A:Ar) (c:Cod τ) (l:List D) (i:Int):Option τ:=bif A.zle 0 i then (A.lget l (A.nat i)).bind c.un else none
theorem gtI {τ:Type} {A:Ar} {c:Cod τ} {l:List D} {i:Int} {v:τ} (h:gt A c l i=some v):A.zle 0 i=true/\A.lget l (A.nat i)=some (c.en v):=by
 unfold gt at h;cases h0:A.zle 0 i with
 | false=>rw [h0] at h;cases h
 | true =>
   rw [h0] at h;obtain ⟨x,h1,h2⟩:=a0a (cT rfl h);exact ⟨rfl,by rw [h1,c.ok x v h2]⟩
def sl (A:Ar) (l:List D) (lo hi:Int):Option (List D):=bif A.zle 0 lo then bif A.zle lo hi then bif A.zle hi (A.len l) then some (A.sub l lo hi) else none else none else none
theorem slI {A:Ar} {l y:List D} {lo hi:Int} (h:sl A l lo hi=some y):A.zle 0 lo=true/\A.zle lo hi=true/\A.zle hi (A.len l)=true/\A.sub l lo hi=y:=by
 unfold sl at h;cases h0:A.zle 0 lo <;> cases h1:A.zle lo hi <;> cases h2:A.zle hi (A.len l) <;> simp [h0,h1,h2] at h;exact ⟨rfl,rfl,rfl,h⟩
def ap (A:Ar) (l m:List D):Option (List D):=bif A.fits (A.zadd (A.len l) (A.len m)) then some (A.app l m) else none
theorem apI {A:Ar} {l m y:List D} (h:ap A l m=some y):A.fits (A.zadd (A.len l) (A.len m))=true/\A.app l m=y:=by
 unfold ap at h;cases h0:A.fits (A.zadd (A.len l) (A.len m)) <;> simp [h0] at h;exact ⟨rfl,h⟩
def ck (b:Bool):Option Unit:=bif b then some () else none
theorem ckI {b:Bool} {u:Unit} (h:ck b=some u):b=true:=by cases b <;> first | rfl | cases h
def nk (b:Bool):Option Unit:=bif b then none else some ()
theorem nkI {b:Bool} {u:Unit} (h:nk b=some u):b=false:=by cases b <;> first | rfl | cases h
def lk {τ:Type} (A:Ar) (c:Cod τ) (es:List (D×D)) (k:D):Option (Option τ):=(A.mget es k).elim (some none) (fun d=>(c.un d).map some)
theorem lkN {τ:Type} {A:Ar} {c:Cod τ} {es:List (D×D)} {k:D} (h:lk A c es k=some none):A.mget es k=none:=by
 unfold lk at h;cases hm:A.mget es k with
 | none=>rfl
 | some d =>
   rw [hm] at h;simp at h
theorem lkS {τ:Type} {A:Ar} {c:Cod τ} {es:List (D×D)} {k:D} {v:τ} (h:lk A c es k=some (some v)):A.mget es k=some (c.en v):=by
 unfold lk at h;cases hm:A.mget es k with
 | none=>rw [hm] at h;simp at h
 | some d =>
   rw [hm] at h;simp at h;rw [c.ok d v h]
def fz (A:Ar) (l:List D) (lo n:Int):Option (List D):=bif A.zle (A.zadd lo n) (A.len l) then some (A.sub l lo (A.zadd lo n)) else none
theorem fzI {A:Ar} (hA:A=Ar.std) {l l':List D} {lo n:Int} (h:fz A l lo n=some l'):lo+n<=l.length/\Ar.std.sub l lo (lo+n)=l':=by
 subst hA;unfold fz at h;cases h0:Ar.std.zle (Ar.std.zadd lo n) (Ar.std.len l) <;> simp [h0] at h;refine ⟨by simpa [Ar.std] using h0,h⟩
theorem neL {A:Ar} (hA:A=Ar.std) {l:List D} (h:A.zlt 0 (A.len l)=true):l≠[]:=by
 subst hA;rintro rfl;simp [Ar.std] at h
theorem c0v {A:Ar} (hA:A=Ar.std) {l:List D}:(l.length:Int)=A.len l:=by subst hA;rfl
def AV.soft:AV->AV
 | .own k l => .d (.list k l)
 | .lim k l => .d (.list k l)
 | .tail k l => .d (.list k l)
 | v=>v
def AV.loose:AV->AV
 | .own k l => .tail k l
 | v=>v
def b0S (sf:List Nat):List (Nat×AV)->List (Nat×AV)
 | []=>[]
 | (t,v)::r=>(t,if sf.contains t then v.soft else if sf.contains (t+1000000) then v.loose else v)::b0S sf r
theorem a4g (sf:List Nat) : ∀ (e:List (Nat×AV)) (t:Nat),a1S (b0S sf e) t=if sf.contains t then (a1S e t).soft else if sf.contains (t+1000000) then (a1S e t).loose else a1S e t
 | [],t=>by simp only [b0S,a1S];split <;> (try split) <;> rfl
 | (s,v)::r,t=>by
   simp only [b0S,a1S];by_cases h:s=t
   ·subst h;simp
   simp only [if_neg h];exact a4g sf r t
theorem Rel.soft {G:Gh} {σ:St} {a:Act} {w:World} (R:Rel G σ a w) (sf:List Nat):Rel G { σ with env:=b0S sf σ.env } a w:=by
 refine ⟨R.h,R.size,fun t => ?_,fun t r off ht => ?_,R.df⟩
 ·have:=R.slots t;simp only [St.get,a4g] at this ⊢;split
  ·generalize a1S σ.env t=c at this;cases c <;> first | exact this | skip
   ·cases this with | own _ _ _ _ h _=>exact .d _ _ _ h
   ·cases this with | lim _ _ _ _ h _=>exact .d _ _ _ h
   cases this with | tail _ _ _ _ h _=>exact .d _ _ _ h
  split
  ·generalize a1S σ.env t=c at this;cases c <;> first | exact this | skip
   exact (a1v (z:=false)).2 ((a1v (z:=true)).1 this |>.imp id a2T.weak)
  exact this
 simp only [St.get,a4g] at ht ⊢;have h1:a1S σ.env t = .place r off:=by
  split at ht
  ·generalize a1S σ.env t=c at ht;cases c <;> first | exact ht | (simp [AV.soft] at ht)
  split at ht
  ·generalize a1S σ.env t=c at ht;cases c <;> first | exact ht | (simp [AV.loose] at ht)
  exact ht
 obtain ⟨cs,h2⟩:=R.places t r off h1;simp only [St.get] at h2;rw [h2];exact ⟨cs,by split <;> (try split) <;> rfl⟩
def St.fitS (σ:St) (ts sf:List Nat) (k:Nat):St:={ σ with env:=b0S sf (a7Y σ.env ts),heap:=σ.heap.take k }
theorem Rel.fitS {G:Gh} {σ:St} {a:Act} {w:World} (R:Rel G σ a w) {ts:List Nat} (sf:List Nat) {k:Nat} (h:σ.fits ts k=true):Rel { G with nh:=k } (σ.fitS ts sf k) a w :=
 (R.fit h).soft sf
def AExit.onN (ts sf:List Nat) (k:Nat) (R:St->Prop) (Q:Exit->St->Prop):Exit->St->Prop
 | .normal,σ=>σ.fits ts k=true/\R (σ.fitS ts sf k)
 | e,σ=>Q e σ
def AExit.onX (j:Nat) (ts sf:List Nat) (k:Nat) (R:St->Prop) (Q:Exit->St->Prop):Exit->St->Prop
 | .exit i,σ=>if i=j then σ.fits ts k=true/\R (σ.fitS ts sf k) else Q (.exit i) σ
 | e,σ=>Q e σ
section
variable {P:Program} {m:Nat} {Q:Exit->St->Prop} {σ:St} {c:Code} {R:St->Prop} {ts sf:List Nat} {k:Nat}
theorem AWp.fitR (ts sf:List Nat) (k:Nat) (hm:m<=k) (hf:σ.fits ts k=true) (h:AWp P m c Q (σ.fitS ts sf k)):AWp P m c Q σ:=by
 intro r n G a w hm' R;refine wpIn_mono (h r n _ a w hm (R.fitS sf hf)) ?_;rintro e a' w' ⟨σ',G',R',hE,hm'',hQ⟩;exact ⟨σ',G',R',⟨hE.K,hE.new,hE.others,hE.size,hE.β,hE.io⟩,hm'',hQ⟩
theorem AWp.cutN (ts sf:List Nat) (k:Nat) (hm:m<=k) (R:St->Prop) (h:AWp P m c (AExit.onN ts sf k R Q) σ) (h2 : ∀ τ,R τ->Q .normal τ):AWp P m c Q σ:=by
 intro r n G a w hm' R0;refine wpIn_mono (h r n G a w hm' R0) ?_;rintro e a' w' ⟨σ',G',R',hE,hm'',hQ⟩;cases e with
 | normal=>exact ⟨_,_,R'.fitS sf hQ.1,hE.nh k,hm,h2 _ hQ.2⟩
 | _=>exact ⟨σ',G',R',hE,hm'',hQ⟩
theorem AWp.cutX (j:Nat) (ts sf:List Nat) (k:Nat) (hm:m<=k) (R:St->Prop) (h:AWp P m c (AExit.onX j ts sf k R Q) σ) (h2 : ∀ τ,R τ->Q (.exit j) τ):AWp P m c Q σ:=by
 intro r n G a w hm' R0;refine wpIn_mono (h r n G a w hm' R0) ?_;rintro e a' w' ⟨σ',G',R',hE,hm'',hQ⟩;cases e with
 | exit i =>
   simp only [AExit.onX] at hQ;split at hQ
   ·rename_i hi;subst hi;exact ⟨_,_,R'.fitS sf hQ.1,hE.nh k,hm,h2 _ hQ.2⟩
   exact ⟨σ',G',R',hE,hm'',hQ⟩
 | _=>exact ⟨σ',G',R',hE,hm'',hQ⟩
theorem oNi (h:σ.fits ts k=true/\R (σ.fitS ts sf k)):AExit.onN ts sf k R Q .normal σ:=h
theorem oNr (h:Q .ret σ):AExit.onN ts sf k R Q .ret σ:=h
theorem oxI {j:Nat} (h:σ.fits ts k=true/\R (σ.fitS ts sf k)):AExit.onX j ts sf k R Q (.exit j) σ:=by simp only [AExit.onX,if_true];exact h
theorem oxR {j:Nat} (h:Q .ret σ):AExit.onX j ts sf k R Q .ret σ:=h
end
section
variable {S X:Type}
def itN (step:S->Option (S⊕X)):Nat->S->Option X
 | 0,_=>none
 | n+1,s=>(step s).bind (Sum.elim (fun s'=>itN step n s') some)
theorem b2r {step:S->Option (S⊕X)} : ∀ {n m:Nat} {s:S} {x:X},n<=m->itN step n s=some x->itN step m s=some x
 | 0,_,_,_,_,h=>by cases h
 | n+1,0,_,_,hn,_=>by omega
 | n+1,m+1,s,x,hn,h=>by
   simp only [itN] at h ⊢;obtain ⟨e,he,h⟩:=a0a h;rw [he];cases e with
   | inl s'=>exact b2r (n:=n) (by omega) (eL h)
   | inr y=>exact h
open Classical in
noncomputable def iter (step:S->Option (S⊕X)) (s:S):Option X:=if h : ∃ n x,itN step n s=some x then itN step h.choose s else none
theorem a8Z {step:S->Option (S⊕X)} {n:Nat} {s:S} {x:X} (h:itN step n s=some x):iter step s=some x:=by
 have hex : ∃ n x,itN step n s=some x:=⟨n,x,h⟩;unfold iter;rw [dif_pos hex];obtain ⟨y,hy⟩:=hex.choose_spec;rw [hy];have h1:=b2r (Nat.le_max_left n hex.choose) h;have h2:=b2r (Nat.le_max_right n hex.choose) hy;rw [h1] at h2;exact h2.symm
theorem a6P {step:S->Option (S⊕X)} {s:S} {x:X} (h:iter step s=some x) : ∃ n,itN step n s=some x:=by
 unfold iter at h;split at h
 ·exact ⟨_,h⟩
 cases h
theorem a0O {step:S->Option (S⊕X)} {s s':S} (h:step s=some (.inl s')):iter step s=iter step s':=by
 have key : ∀ x,iter step s=some x↔iter step s'=some x:=by
  intro x;constructor
  ·intro hx;obtain ⟨n,hn⟩:=a6P hx;cases n with
   | zero=>cases hn
   | succ n=>simp only [itN,h,Option.bind_some,Sum.elim_inl] at hn;exact a8Z hn
  intro hx;obtain ⟨n,hn⟩:=a6P hx;exact a8Z (n:=n+1) (by simp only [itN,h,Option.bind_some,Sum.elim_inl];exact hn)
 cases e:iter step s with
 | some x=>exact ((key x).1 e).symm
 | none =>
   cases e':iter step s' with
   | none=>rfl
   | some x=>rw [(key x).2 e'] at e;cases e
theorem a0w {step:S->Option (S⊕X)} {s:S} {x:X} (h:step s=some (.inr x)):iter step s=some x :=
 a8Z (n:=1) (by simp only [itN,h,Option.bind_some,Sum.elim_inr])
theorem exL {e:S⊕X} {x x':X} {p:Prop} (he:some (Sum.inr x')=some e) (hq:x'=x->p) : ∃ x'',e = .inr x''/\(x''=x->p):=⟨x',(soI he).symm,hq⟩
variable {P:Program} {m:Nat} {Q:Exit->St->Prop} {σ:St} {c:Code}
theorem AWp.iter {step:S->Option (S⊕X)} {s0:S} {x:X} (hx:iter step s0=some x) (ts sf:List Nat) (k:Nat) (hm:m<=k) (F:S->St) (hf:σ.fits ts k=true/\σ.fitS ts sf k=F s0)
  (h : ∀ s e,step s=some e->AWp P m c (AExit.then (fun σ' => ∃ s',e = .inl s'/\σ'.fits ts k=true/\σ'.fitS ts sf k=F s') (fun ex σ' => ∃ x',e = .inr x'/\(x'=x->Q ex σ'))) (F s)):AWp P m (.loop c) Q σ:=by
 obtain ⟨n,hn⟩:=a6P hx;refine AWp.fitR ts sf k hm hf.1 ?_;rw [hf.2];refine AWp.loop (ι:={ i:S×Nat // itN step i.2 i.1=some x }) (fun i=>i.1.2) (fun i=>F i.1.1) ⟨(s0,n),hn⟩ ?_;rintro ⟨⟨s,n⟩,hi⟩;cases n with
 | zero=>cases hi
 | succ n =>
   simp only [itN] at hi;obtain ⟨e,he,hi⟩:=a0a hi;intro r n' G a w hm' R;refine wpIn_mono (h s e he r n' G a w hm' R) ?_;rintro ex a' w' ⟨σ',G',R',hE,hm'',hq⟩;cases ex with
   | normal =>
     obtain ⟨s',rfl,h1,h2⟩:=hq;exact ⟨_,_,R'.fitS sf h1,hE.nh k,hm,⟨(s',n),hi⟩,Nat.lt_succ_self _,h2⟩
   | _=>obtain ⟨x',rfl,h1⟩:=hq;exact ⟨σ',G',R',hE,hm'',h1 (soI hi)⟩
end
section
variable {P:Program} {T:a0m} {m:Nat} {Q:Exit->St->Prop} {K:St->Prop} {σ σ':St} {ops:Array Oper} {id:Nat} {c:Code} {A:Ar}
theorem nT (h:K σ):AExit.then K Q .normal σ:=h
theorem nB (h:Q .normal σ):AExit.block id Q .normal σ:=h
theorem xT {j:Nat} (h:Q (.exit j) σ):AExit.then K Q (.exit j) σ:=h
theorem xB (h:Q .normal σ):AExit.block id Q (.exit id) σ:=by simp only [AExit.block,if_true];exact h
theorem rT (h:Q .ret σ):AExit.then K Q .ret σ:=h
theorem rB (h:Q .ret σ):AExit.block id Q .ret σ:=h
theorem AWp.rg (hT:TOk P T) (hA:A=Ar.std) (an:Ann) (h:a7X A T an ops.toList ops.toList σ = .done σ') (hm:m<=σ.heap.length) (k:Q .normal σ'):AWp P m (.region id ops false) Q σ :=
 AWp.reg1 an hT (fun A' hA'=>by subst hA';subst hA;exact h) hm k
theorem AWp.rd (hT:TOk P T) (hA:A=Ar.std) (an:Ann) (hmix:P.follows .mixedOrders=true) {xs:List Rec} (h:a8b A T an ops.toList ops.toList σ [] = .done σ' xs) (hok:a2b ops.toList (xs.map Rec.foot)=true) (hm:m<=σ.heap.length) (k:Q .normal σ'):AWp P m (.region id ops true) Q σ :=
 AWp.reg1D an hT hmix (fun A' hA'=>by subst hA';subst hA;exact h) hok hm k
variable {l rest:List Oper} {f:FuncId} {args:List AV} {o:Oper} {σ1:St} {H Hr H':List Obj} {r:AV} {d:Nat} {xs xs1:List Rec}
theorem a1B.cc (hT:TOk P T) (hA:A=Ar.std) (an:Ann) (h:a7X A T an ops.toList l σ = .call f args o rest σ1)
  (hm:m<=σ.heap.length) (hc:a0j P f args H r H') (hH:σ1.heap=H++Hr) (hr:Hr=[]\/H'.length=H.length) (hin:a0u H.length H=true) (hargs:a3G H.length args=true) (hd:o.dst=some d) (hlt:d<σ1.n) (hb:(σ1.get d).isBox=false)
  (hfr:args.all AV.free=true) (k:a1B P m ops rest Q { σ1 with env:=a2z σ1.env d r,heap:=H'++Hr }):a1B P m ops l Q σ :=
 a1B.stepCall hT (an:=an) (fun A' hA'=>by subst hA';subst hA;exact h) hm hH hr hin hargs hd hlt hb hfr hc k
theorem a1B.cd (hT:TOk P T) (hA:A=Ar.std) (an:Ann) (h:a7X A T an ops.toList l σ = .done σ') (hm:m<=σ.heap.length) (hq:Q .normal σ'):a1B P m ops l Q σ :=
 a1B.done hT (an:=an) (fun A' hA'=>by subst hA';subst hA;exact h) hm hq
theorem a1t.cl (hT:TOk P T) (hA:A=Ar.std) (an:Ann) (hl:l=ops.toList.drop xs.length) (h:a8b A T an ops.toList l σ xs = .call f args o rest σ1 xs1)
  (hc:a0j P f args H r H') (hH:σ1.heap=H++Hr) (hr:H'.length=H.length) (hin:a0u H.length H=true) (hargs:a3G H.length args=true) (hd:o.dst=some d) (hlt:d<σ1.n) (hb:(σ1.get d).isBox=false) (hfr:args.all AV.free=true)
  (k:a1t P m ops rest (xs1++[{ sets:=[(d,r)],heap:=none,rd:=a0q ops.toList o,hr:=false,ho:=List.range H.length,low:=H' }]) K (σ1.upd [(d,r)] (some (H'++Hr)))):a1t P m ops l xs K σ :=
 a1t.stepCallL hT (an:=an) hl (fun A' hA'=>by subst hA';subst hA;exact h) hH hr hin hargs hd hlt hb hfr hc k
theorem a1t.c0 (hT:TOk P T) (hA:A=Ar.std) (an:Ann) (hl:l=ops.toList.drop xs.length) (h:a8b A T an ops.toList l σ xs = .call f args o rest σ1 xs1)
  (hc:a0j P f args [] r []) (hargs:a3G 0 args=true) (hd:o.dst=some d) (hlt:d<σ1.n) (hb:(σ1.get d).isBox=false) (hfr:args.all AV.free=true)
  (k:a1t P m ops rest (xs1++[{ sets:=[(d,r)],heap:=none,rd:=a0q ops.toList o,hr:=false,ho:=[],low:=[] }]) K (σ1.upd [(d,r)] none)):a1t P m ops l xs K σ :=
 a1t.stepCall hT (an:=an) hl (fun A' hA'=>by subst hA';subst hA;exact h) hargs hd hlt hb hfr hc k
theorem a1t.cd (hT:TOk P T) (hA:A=Ar.std) (an:Ann) {xs':List Rec} (hl:l=ops.toList.drop xs.length) (h:a8b A T an ops.toList l σ xs = .done σ' xs') (hok:a2b ops.toList (xs'.map Rec.foot)=true) (hq:K σ'):a1t P m ops l xs K σ :=
 a1t.done hT (an:=an) hl (fun A' hA'=>by subst hA';subst hA;exact h) hok hq
theorem AWp.cdT {t:Nat} {x y:Code} {b:Bool} (hc:σ.get t = .d (.bool b)) (hb:b=true) (h:AWp P m x Q σ):AWp P m (.cond (.tmp t) x y) Q σ:=by
 subst hb;exact AWp.cond (b:=true) hc h
theorem AWp.cdF {t:Nat} {x y:Code} {b:Bool} (hc:σ.get t = .d (.bool b)) (hb:b=false) (h:AWp P m y Q σ):AWp P m (.cond (.tmp t) x y) Q σ:=by
 subst hb;exact AWp.cond (b:=false) hc h
end
def cIf:Cod Int where
 en z := .iface z
 un d:=match d with | .iface z=>some z | _=>none
 ok d z h:=by
  cases d <;> simp at h;rw [h]
 ko z:=rfl
theorem ifF {A:Ar} (hA:A=Ar.std) {z:Int} {n:Nat} (h:A.zeq z (Int.ofNat n)=true):z=Int.ofNat n:=by
 subst hA;exact of_decide_eq_true h
def cU:Cod Unit where
 en _ := .agg []
 un d:=match d with | .agg []=>some () | _=>none
 ok d z h:=by
  split at h
  ·rfl
  cases h
 ko z:=rfl
variable {P:Program} {T:a0m} {A:Ar} {m:Nat} {ops:Array Oper} {σ σ1:St} {o:Oper} {i:Nat} {K:St->Prop} {l rest:List Oper} {xs xs1:List Rec}
theorem a1M.callP (hT:TOk P T) (ho:ops[i]?=some o) {f:FuncId} {args:List AV} {r:AV} {H rest:List Obj} {d:Nat} (hw:a1L ops.toList σ o=some true) (hcall:a2a T σ o=some (f,args)) (hH:σ.heap=H++rest)
  (hin:a0u H.length H=true)
  (hargs:a3G H.length args=true) (hd:o.dst=some d) (hlt:d<σ.n) (hb:(σ.get d).isBox=false) (hfr:args.all AV.free=true) (hc:a0j P f args H r H) :
  a1M P m ops i σ { sets:=[(d,r)],heap:=none,rd:=a0q ops.toList o,hr:=false,ho:=List.range H.length,low:=[] }:=by
 intro τ hrd hhr hho hn hm;have h:=a1M.callL (m:=m) hT ho hw hcall hH rfl hin hargs hd hlt hb hfr hc τ hrd hhr hho hn hm;have e:Rec.app τ { sets:=[(d,r)],heap:=none,rd:=a0q ops.toList o,hr:=false,ho:=List.range H.length,low:=H }=Rec.app τ { sets:=[(d,r)],heap:=none,rd:=a0q ops.toList o,hr:=false,ho:=List.range H.length,low:=[] }:=by
  obtain ⟨rest',hheap⟩ : ∃ rest',τ.heap=H++rest':=a6h (fun a ha=>by
   rw [hho a (List.mem_range.2 ha),hH,zp7 ha])
  have:a2O H τ.heap=τ.heap:=by unfold a2O;rw [hheap,List.drop_left]
  simp only [Rec.app,St.upd,Option.getD_none,this,b2m]
 rw [e] at h;exact h
theorem a1t.cp (hT:TOk P T) (hA:A=Ar.std) (an:Ann) {f:FuncId} {args:List AV} {r:AV} {H Hr:List Obj} {d:Nat} (hl:l=ops.toList.drop xs.length) (h:a8b A T an ops.toList l σ xs = .call f args o rest σ1 xs1)
  (hc:a0j P f args H r H) (hH:σ1.heap=H++Hr) (hin:a0u H.length H=true) (hargs:a3G H.length args=true) (hd:o.dst=some d) (hlt:d<σ1.n) (hb:(σ1.get d).isBox=false) (hfr:args.all AV.free=true)
  (k:a1t P m ops rest (xs1++[{ sets:=[(d,r)],heap:=none,rd:=a0q ops.toList o,hr:=false,ho:=List.range H.length,low:=[] }]) K (σ1.upd [(d,r)] none)):a1t P m ops l xs K σ :=
 a1t.run (an:=an) hT l xs σ hl (by
  rw [(fun A' (hA':A'=Ar.std)=>by subst hA';subst hA;exact h : ∀ A:Ar,A=Ar.std->a8b A T an ops.toList l σ xs = .call f args o rest σ1 xs1) _ rfl];exact fun hcall hw ho=>a1t.cons (a1M.callP hT ho hw hcall hH hin hargs hd hlt hb hfr hc) k)
theorem rs1 {x:ResultVar} {a:AV} (h:a3H T σ true x=some a):b4l T σ [x]=some a:=h
end Go.Am
namespace Go.Am
open Go
variable {P:Program} {m:Nat} {Q:Exit->St->Prop} {σ:St} {c:Code}
theorem RelH.freezeP {G:Gh} {H:List Obj} {w:World} {c:Loc} (R:RelH G H w) {i k:Nat} {lo n:Int} {l:List D} {v:Value} (hrep:RepV G w c (.mref i k lo n) v) (hi:H[i]?=some (.arr k l)) (hfit:lo+n<=l.length) :
  ∃ G',RelH G' (H.set i .dead) w/\RepD G'.K (.list k (Ar.std.sub l lo (lo+n))) v/\(∀ m,Ext m G w G' w)/\Pres G G' w w (fun x=>x ≠ .o i)/\G'.β=G.β:=by
 cases hrep with | mref _ _ _ _ _ b off cap hnh hlo hn hcap hbo =>
 obtain ⟨vs,e,hO,hw,hu,hsz,h1,hh⟩:=R.objs i _ hi;have hil:i<H.length:=(zp2.1 hi).1;have hfl:=a0b hu;let B:=G.β (.o i);let G':Gh:={ G with K:=fun x=>if x.block=B/\x.spot=none/\x.off<(D.flat l).length then some (vs.getD x.off Go.undef) else G.K x,O:=fun x=>if x=B then none else G.O x }
 have hdisj:=R.disj _ _ _ hO;have hKle:KLe G.K G'.K:=by
  intro x v h;simp only [G'];rw [if_neg];exact h;rintro ⟨hb,hsp,_⟩;obtain ⟨xb,xo,xs⟩:=x;simp at hb hsp;subst hb hsp;rw [hdisj.2 xo (Nat.zero_le _)] at h;cases h
 have hOold : ∀ b' x f',x ≠ .o i->G.O b'=some (x,f')->G'.O b'=some (x,f'):=by
  intro b' x f' hx h;have:b'≠B:=by rintro rfl;rw [show G.O B=_ from hO] at h;simp at h;exact hx h.1.symm
  simp only [G'];rw [if_neg this];exact h
 have hpr:Pres G G' w w (fun x=>x ≠ .o i) :=
  ⟨hKle,fun b' x f' hx h=>⟨hOold b' x f' hx h,rfl⟩,fun _ _=>rfl,Nat.le_refl _⟩
 have hkept : ∀ x v,G'.K x=some v->w.cell? x=some v:=by
  intro x v h;simp only [G'] at h;split at h
  ·rename_i hc;obtain ⟨xb,xo,xs⟩:=x;obtain ⟨h1',h2',h3'⟩:=hc;simp at h1' h2' h3' h;subst h1' h2';rw [a0X hw (by omega)];simpa using h
  exact R.kept x v h
 obtain ⟨LO,rfl⟩:=zp9 hlo;obtain ⟨N,rfl⟩:=zp9 hn;have hsubl:Ar.std.sub l LO (LO+N)=(l.drop LO).take N:=by
  simp only [Ar.std];congr 1
  all_goals omega
 have hlist':RepD G'.K (.list k ((l.drop LO).take N)) (.slice (some ⟨b,off,none⟩) N cap):=by
  by_cases hN:N=0
  ·subst hN;simp only [List.take_zero];exact RepD.empty _ _ _ _ _
  obtain ⟨rfl,rfl⟩:=hbo (by omega);simp only [Int.toNat_natCast];have hus:=hu.sub LO N;have hln:((l.drop LO).take N).length=N:=by simp;omega
  have hfe:D.flat ((l.drop LO).take N)=((D.flat l).drop (LO*k)).take (N*k):=by
   rw [a0W (fun x hx=>hu x (List.mem_of_mem_drop hx)),a1x hu]
  have hflN:=a0b hus;have hmul:LO*k+N*k<=l.length*k:=by rw [<-Nat.add_mul];exact Nat.mul_le_mul_right _ (by omega)
  have hgetj : ∀ (j:Nat) (hj:j<(D.flat ((l.drop LO).take N)).length),(D.flat ((l.drop LO).take N))[j]=(D.flat l)[LO*k+j]'(by rw [hflN,hln] at hj;omega):=by
   intro j hj;simp only [hfe,List.getElem_take,List.getElem_drop]
  have:=RepD.list (K:=G'.K) k ((l.drop LO).take N) (G.β (.o i)) (LO*k) cap (fun j=>vs.getD (LO*k+j) Go.undef) hus (by rw [hln];simpa using hcap)
   (fun j hj=>by
    rw [hflN,hln] at hj;have hjj:LO*k+j<(D.flat l).length:=by omega
    simp [G',B,hjj])
   (fun j hj=>by rw [hflN,hln] at hj;exact h1 _ (by omega))
   (fun j hj=>by
    rw [hgetj j hj];rw [hflN,hln] at hj;exact (hh _ (by omega)).mono hKle)
  rwa [hln] at this
 refine ⟨G',⟨⟨fun b' x f' h => ?_⟩,by simpa [G'] using R.nh,fun i' ob hob => ?_,hkept,fun b' x f' h => ?_⟩,by rw [hsubl];exact hlist',fun m=>⟨hKle,fun x v h => ?_,fun b' hb h=>⟨rfl,?_⟩,Nat.le_refl _,fun _ _=>rfl,rfl,rfl,fun _ _=>rfl,rfl,Nat.le_refl _⟩,hpr,rfl⟩
 ·simp only [G'] at h;split at h
  ·cases h
  exact R.sane.no b' x f' h
 ·by_cases hii:i=i'
  ·subst hii;simp [List.getElem?_set_self hil] at hob;subst hob;trivial
  rw [List.getElem?_set_ne hii] at hob;exact (R.objs i' ob hob).pres R.sane (by rw [<-R.nh];exact (zp2.1 hob).1) hpr (by simp;exact fun e=>hii e.symm) (by simp)
 ·simp only [G'] at h ⊢;split at h
  ·cases h
  rename_i hne;refine ⟨(R.disj b' x f' h).1,fun j hj => ?_⟩;rw [if_neg (by intro hc;exact hne hc.1)];exact (R.disj b' x f' h).2 j hj
 ·simp only [G'] at h;split at h
  ·rename_i hc;exact .inr (.inl ⟨_,by rw [hc.1];exact hO⟩)
  exact .inl h
 simp only [G'];split
 ·rfl
 exact h
theorem RelH.freeze {G:Gh} {H:List Obj} {w:World} {c:Loc} (R:RelH G H w) {i k:Nat} {lo n:Int} {l:List D} {v:Value} (hrep:RepV G w c (.mref i k lo n) v) (hi:H[i]?=some (.arr k l)) (hfit:lo+n<=l.length) :
  ∃ G',RelH G' (H.set i .dead) w/\RepD G'.K (.list k (Ar.std.sub l lo (lo+n))) v /\ ∀ m,Ext m G w G' w:=by
 obtain ⟨G',h1,h2,h3,_⟩:=R.freezeP hrep hi hfit;exact ⟨G',h1,h2,h3⟩
end Go.Am
namespace Go.Am
open Go
def b7A (l:List D):Bool:=l.all fun x=>match x with | .list _ ys=>scalars ys | _=>false
def loose (l:List D):Bool:=scalars l||b7A l
def b9D (P:Program) (c:Code) (Q:Exit->St->Prop) (σ:St):Prop :=
 ∀ (n:Nat) (G0:Gh) (w0:World) (G:Gh) (a:Act) (w:World),(∀ b,G0.O b=none)->(∀ x v,G0.K x=some v->x.block<w0.heap.size)->Rel G σ a w->Ext 0 G0 w0 G w->c.wpIn (Wd none) n P (Post 0 G0 w0 Q) a w
section
variable {P:Program} {c x y:Code} {Q:Exit->St->Prop} {σ:St}
theorem b9D.seq (h:a8Y P 0 x (AExit.then (b9D P y Q) Q) σ):b9D P (.seq x y) Q σ:=by
 intro n G0 w0 G a w hO hK R hE0;refine wpIn_seq (wpIn_mono (h n G a w (Nat.zero_le _) R) ?_);rintro e a' w' ⟨σ',G',R',hE,hm',hQ⟩;cases e with
 | normal=>exact hQ n G0 w0 G' a' w' hO hK R' (hE0.trans hE)
 | _=>exact ⟨σ',G',R',hE0.trans hE,hm',hQ⟩
end
section
variable (x y:Int) (l m:List D)
@[simp] theorem a4h:Ar.std.zle x y=decide (x<=y):=rfl
@[simp] theorem a5p:Ar.std.zlt x y=decide (x<y):=rfl
@[simp] theorem a1N:Ar.std.zeq x y=decide (x=y):=rfl
@[simp] theorem a0h (k:IntKind):Ar.std.wrp k x=k.wrap x:=rfl
@[simp] theorem a0k:Ar.std.zadd x y=x+y:=rfl
@[simp] theorem a0P:Ar.std.zsub x y=x-y:=rfl
@[simp] theorem b8P:Ar.std.zmul x y=x*y:=rfl
@[simp] theorem b9E:Ar.std.nat x=x.toNat:=rfl
@[simp] theorem b9F:Ar.std.len l=(l.length:Int):=rfl
@[simp] theorem b4o (i:Nat):Ar.std.lget l i=l[i]?:=rfl
@[simp] theorem a9S:Ar.std.fits x=decide (x<4294967296):=rfl
@[simp] theorem b2s:Ar.std.sub l x y=(l.drop x.toNat).take (y.toNat-x.toNat):=rfl
@[simp] theorem b9G:Ar.std.app l m=l++m:=rfl
@[simp] theorem b9H (k:IntKind):Ar.std.quo k x y=k.wrap (x.tdiv y):=rfl
@[simp] theorem b9I:Ar.std.rem x y=x.tmod y:=rfl
@[simp] theorem b9J (k:IntKind):Ar.std.shl k x y=k.wrap (x*2 ^ (min y.toNat k.bits)):=rfl
@[simp] theorem b9K (k:IntKind):Ar.std.shr k x y=x.fdiv (2 ^ (min y.toNat k.bits)):=rfl
@[simp] theorem b8Q (op:BinOp) (k:IntKind):Ar.std.bits op k x y=a2n op k x y:=rfl
@[simp] theorem b9L (a b:Bool):Ar.std.beq a b=(a == b):=rfl
@[simp] theorem b8R:Ar.std.zmin x y=if y<x then y else x:=rfl
@[simp] theorem b8S:Ar.std.zmax x y=if y>x then y else x:=rfl
@[simp] theorem b8T (es:List (D×D)) (k:D):Ar.std.mget es k=Am.mget es k:=rfl
@[simp] theorem b8U (es:List (D×D)) (k v:D):Ar.std.mput es k v=Am.mput es k v:=rfl
@[simp] theorem b8V (es:List (D×D)) (k:D):Ar.std.midx es k=(Am.midx es k:Int):=rfl
@[simp] theorem b8W (es:List (D×D)) (z:Int):Ar.std.mhas es z=decide (0<=z/\z<es.length):=rfl
@[simp] theorem b8X (es:List (D×D)) (z:Int) (v:D):Ar.std.mset es z v=es.modify z.toNat fun p=>(p.1,v):=rfl
@[simp] theorem b8Y (i:Nat) (d:D):Ar.std.lset l i d=l.set i d:=rfl
@[simp] theorem b9M (d:D):Ar.std.rep x d=List.replicate x.toNat d:=rfl
@[simp] theorem b8Z:Ar.std.ones l=l.all D.isOne:=rfl
@[simp] theorem b9N:Ar.std.spl l x m=l.take x.toNat++m++l.drop (x.toNat+m.length):=rfl
@[simp] theorem a6Q (d:D):Ar.std.fill l x y d=a1a l x y d:=rfl
open Classical in
@[simp] theorem b9O:Ar.std.deq l m=decide (l=m):=rfl
end
theorem a2P (n:Int) (h0 : -9223372036854775808<=n) (h1:n<9223372036854775808):IntKind.i64.wrap n=n:=by
 simp [IntKind.wrap_i64];omega
@[simp] theorem c1f {α β:Type} (a:α) (f:α->Option β):(some a).bind f=f a:=rfl
@[simp] theorem b9P:ck true=some ():=rfl
@[simp] theorem b9a:nk false=some ():=rfl
@[simp] theorem b7B {α:Type} (c:Bool) (a b:α):(bif c then some a else some b)=some (bif c then a else b):=by cases c <;> rfl
@[simp] theorem c1g (b:Bool):cB.un (.bool b)=some b:=rfl
@[simp] theorem c1h (b:ByteArray):cS.un (.str b)=some b:=rfl
@[simp] theorem c1i (l:List D):cA.un (.agg l)=some l:=rfl
@[simp] theorem c1j {τ:Type} (c:Cod τ) (x:D):(l1 c).un [x]=c.un x:=rfl
@[simp] theorem c1k {τ ρ:Type} (c:Cod τ) (d:CodL ρ) (x:D) (r:List D):(lc c d).un (x::r)=(c.un x).bind fun a=>(d.un r).map fun b=>(a,b):=rfl
@[simp] theorem c1l {τ:Type} (d:CodL τ) (l:List D):(cG d).un (.agg l)=d.un l:=rfl
theorem b7C {α:Type} (f:α->D) (l:List α) (lo hi:Int) (h0:0<=lo) (h1:lo<=hi) (h2:hi<=l.length):sl Ar.std (l.map f) lo hi=some (((l.drop lo.toNat).take (hi.toNat-lo.toNat)).map f):=by
 simp [sl,h0,h1,h2,List.map_take,List.map_drop]
theorem b6a {α:Type} (f:α->D) (l:List α) (i:Nat) (h2:i<=l.length):sl Ar.std (l.map f) 0 (i:Int)=some ((l.take i).map f):=by
 rw [b7C f l 0 i (by omega) (by omega) (by omega)];simp
theorem a8e {α:Type} (f:α->D) (l m:List α) (h:(l.length:Int)+m.length<4294967296):ap Ar.std (l.map f) (m.map f)=some ((l++m).map f):=by
 simp [ap,h]
section
variable {S X:Type} {step:S->Option (S⊕X)}
end
def a9a {α S X:Type} (f:S->α->S⊕X) (fin:S->X):List α->S->X
 | [],s=>fin s
 | a::l,s=>(f s a).elim (a9a f fin l) id
section
variable {α S X:Type}
theorem a6i (f:S->α->S⊕X) (fin:S->X) (a:α) (l:List α) (s:S):a9a f fin (a::l) s=(f s a).elim (a9a f fin l) id:=rfl
theorem a8f (g:S->α->S) (fin:S->X) : ∀ (l:List α) (s:S),a9a (fun s a => .inl (g s a)) fin l s=fin (l.foldl g s)
 | [],_=>rfl
 | a::l,s=>by simp only [a6i,Sum.elim_inl,a8f g fin l,List.foldl_cons]
variable {T:Type} {step:T->Option (T⊕X)}
theorem b2t (l:List α) (st:S->Nat->T) (f:S->α->S⊕X) (fin:S->X) (Inv:Nat->S->Prop)
  (hs : ∀ i a s,l[i]?=some a->Inv i s->(∃ s',f s a = .inl s'/\Inv (i+1) s'/\step (st s i)=some (.inl (st s' (i+1))))\/(∃ x,f s a = .inr x/\step (st s i)=some (.inr x)))
  (he : ∀ s,Inv l.length s->step (st s l.length)=some (.inr (fin s))) (s0:S) (h0:Inv 0 s0):iter step (st s0 0)=some (a9a f fin l s0):=by
 have key : ∀ (k i:Nat) (s:S),i+k=l.length->Inv i s->iter step (st s i)=some (a9a f fin (l.drop i) s):=by
  intro k
  induction k with
  | zero =>
    intro i s hi hI;obtain rfl:i=l.length:=by omega
    rw [List.drop_length,a0w (he s hI)];rfl
  | succ k ih =>
    intro i s hi hI;have hlt:i<l.length:=by omega
    rw [List.drop_eq_getElem_cons hlt,a6i];rcases hs i l[i] s (zp1 hlt) hI with ⟨s',h1,h2,h3⟩ | ⟨x,h1,h3⟩
    ·rw [h1,a0O h3,ih (i+1) s' (by omega) h2];rfl
    rw [h1,a0w h3];rfl
 have:=key l.length 0 s0 (by omega) h0;simpa using this
theorem b0T (l:List α) (st:S->Nat->T) (f:S->α->S⊕X) (fin:S->X)
  (hs : ∀ i a s,l[i]?=some a->i<l.length->step (st s i)=some ((f s a).elim (fun s' => .inl (st s' (i+1))) .inr))
  (he : ∀ s,step (st s l.length)=some (.inr (fin s))) (s0:S):iter step (st s0 0)=some (a9a f fin l s0):=by
 refine b2t l st f fin (fun _ _=>True) (fun i a s ha _ => ?_) (fun s _=>he s) s0 trivial;have:=hs i a s ha (zp2.1 ha).1;cases hf:f s a with
 | inl s'=>rw [hf] at this;exact .inl ⟨s',rfl,trivial,this⟩
 | inr x=>rw [hf] at this;exact .inr ⟨x,rfl,this⟩
end
section
variable {α τ:Type}
theorem a5q {l m:List D} (h:(l.length:Int)+m.length<4294967296):ap Ar.std l m=some (l++m):=by
 simp [ap,h]
theorem b9Q {i n:Nat} (h:i<n) (hn:n<9223372036854775808):IntKind.i64.wrap ((i:Int)+1)=((i+1:Nat):Int):=by
 rw [a2P _ (by omega) (by omega)];omega
end
section
variable {τ:Type}
def ltF (f:τ->τ->Option Int) (x y:τ):Bool:=match f x y with
 | some r=>decide (r<0)
 | none=>false
structure CmpOk (f:τ->τ->Option Int) (xs:List τ):Prop where
 some : ∀ x∈xs,∀ y∈xs,∃ r,f x y=some r
 irr : ∀ x∈xs,ltF f x x=false
 tr : ∀ x∈xs,∀ y∈xs,∀ z∈xs,ltF f x y=true->ltF f y z=true->ltF f x z=true
 tot : ∀ x∈xs,∀ y∈xs,ltF f x y=false->ltF f y x=false->x=y
theorem CmpOk.ntr {f:τ->τ->Option Int} {xs:List τ} (h:CmpOk f xs) : ∀ x∈xs,∀ y∈xs,∀ z∈xs,ltF f x y=false->ltF f y z=false->ltF f x z=false:=by
 intro x hx y hy z hz h1 h2;cases h3:ltF f x z with
 | false=>rfl
 | true =>
   cases h4:ltF f y x with
   | false=>rw [h.tot x hx y hy h1 h4] at h3;rw [h3] at h2;cases h2
   | true=>rw [h.tr y hy x hx z hz h4 h3] at h2;cases h2
open Classical in
noncomputable def srt (c:Cod τ) (f:τ->τ->Option Int) (lo n:Int) (l:List D):Option (List D) :=
 if h:lo=0/\n=(l.length:Int)/\n<4611686018427387904 /\ ∃ xs:List τ,l=xs.map c.en/\CmpOk f xs then some ((h.2.2.2.choose.mergeSort fun x y => !ltF f y x).map c.en) else none
theorem Cod.inj (c:Cod τ) {x y:τ} (h:c.en x=c.en y):x=y:=by
 have:=c.ko x;rw [h,c.ko] at this;exact (Option.some.inj this).symm
theorem Cod.map_inj (c:Cod τ) : ∀ {xs ys:List τ},xs.map c.en=ys.map c.en->xs=ys
 | [],[],_=>rfl
 | [],_::_,h=>by simp at h
 | _::_,[],h=>by simp at h
 | x::xs,y::ys,h=>by
   simp at h;rw [c.inj h.1,Cod.map_inj c (xs:=xs) (ys:=ys) (by simpa using h.2)]
theorem b7D {c:Cod τ} {f:τ->τ->Option Int} {n:Int} {xs:List τ} (hn:n=(xs.length:Int)) (hs:n<4611686018427387904) (h:CmpOk f xs):srt c f 0 n (xs.map c.en)=some ((xs.mergeSort fun x y => !ltF f y x).map c.en):=by
 have hh:(0:Int)=0/\n=((xs.map c.en).length:Int)/\n<4611686018427387904 /\ ∃ ys:List τ,xs.map c.en=ys.map c.en/\CmpOk f ys:=⟨rfl,by simpa using hn,hs,xs,rfl,h⟩;unfold srt;rw [dif_pos hh];have:=hh.2.2.2.choose_spec.1;rw [<-c.map_inj this]
theorem c1m {c:Cod τ} {f:τ->τ->Option Int} {lo n:Int} {l l':List D} (h:srt c f lo n l=some l'):lo=0/\n=(l.length:Int)/\n<4611686018427387904 /\ ∃ xs:List τ,l=xs.map c.en/\CmpOk f xs/\l'=(xs.mergeSort fun x y => !ltF f y x).map c.en:=by
 unfold srt at h;split at h
 ·rename_i hh;have hc:=hh.2.2.2.choose_spec;generalize hh.2.2.2.choose=xs at h hc;exact ⟨hh.1,hh.2.1,hh.2.2.1,xs,hc.1,hc.2,(Option.some.inj h).symm⟩
 cases h
end
end Go.Am
