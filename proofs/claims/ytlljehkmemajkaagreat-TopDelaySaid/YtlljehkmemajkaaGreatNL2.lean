import Derived.Test.YtlljehkmemajkaaGreatAmLaw
set_option maxRecDepth 100000
set_option linter.unusedVariables false
set_option linter.unusedSimpArgs false
set_option linter.unusedSectionVars false
namespace Go.Am
theorem a7t {α:Type} [DecidableEq α] : ∀ {l m:List α},l.Nodup->(∀ a∈l,a∈m)->l.length<=m.length
 | [],m,_,_=>Nat.zero_le _
 | a::l,m,hn,hm=>by
   rw [List.nodup_cons] at hn;have h1:=a7t (l:=l) (m:=m.erase a) hn.2 fun b hb=>by
    have hne:b≠a:=fun e=>hn.1 (e▸hb);exact (List.mem_erase_of_ne hne).2 (hm b (by simp [hb]))
   have h2:=List.length_erase_of_mem (hm a (by simp));have h3:=List.length_pos_of_mem (hm a (by simp));simp only [List.length_cons];omega
section
variable {S:Type} [DecidableEq S] (succ:S->List S)
inductive Reach (i:S):S->Prop
 | init:Reach i i
 | step {s n:S} (h:Reach i s) (hn:n∈succ s):Reach i n
def push (q:List S×List S) (n:S):List S×List S:=if n∈q.1 then q else (q.1++[n],q.2++[n])
theorem a5n : ∀ (l:List S) (seen pile:List S),seen.Nodup -> ∃ new:List S,l.foldl push (seen,pile)=(seen++new,pile++new)/\(seen++new).Nodup/\(∀ n∈new,n∈l) /\ ∀ n∈l,n∈seen++new
 | [],seen,pile,h=>⟨[],by simp,by simpa using h,fun n hn=>(by cases hn),fun n hn=>(by cases hn)⟩
 | a::l,seen,pile,h=>by
   rw [List.foldl_cons];by_cases ha:a∈seen
   ·have e:push (seen,pile) a=(seen,pile):=by unfold push;rw [if_pos ha]
    rw [e];obtain ⟨new,h1,h2,h3,h4⟩:=a5n l seen pile h;refine ⟨new,h1,h2,fun n hn=>List.mem_cons_of_mem _ (h3 n hn),fun n hn => ?_⟩;rcases List.mem_cons.1 hn with rfl | hn
    ·exact List.mem_append_left _ ha
    exact h4 n hn
   have e:push (seen,pile) a=(seen++[a],pile++[a]):=by unfold push;rw [if_neg ha]
   rw [e];have hn:(seen++[a]).Nodup:=by
    rw [List.nodup_append];exact ⟨h,by simp,fun x hx y hy=>by simp at hy;subst hy;exact fun e=>ha (e▸hx)⟩
   obtain ⟨new,h1,h2,h3,h4⟩:=a5n l (seen++[a]) (pile++[a]) hn;refine ⟨a::new,by rw [h1];simp,by simpa using h2,fun n hn => ?_,fun n hn => ?_⟩
   ·rcases List.mem_cons.1 hn with rfl | hn
    ·simp
    exact List.mem_cons_of_mem _ (h3 n hn)
   rcases List.mem_cons.1 hn with rfl | hn
   ·simp
   have:=h4 n hn;simpa using this
structure Known (i:S) (R seen pile done:List S):Prop where
 nodup:seen.Nodup
 perm:seen.Perm (done++pile)
 inR : ∀ s∈seen,s∈R
 reach : ∀ s∈seen,Reach succ i s
 init:i∈seen
 closed : ∀ s∈done,∀ n∈succ s,n∈seen
theorem Known.start {i:S} {R:List S} (hi:i∈R):Known succ i R [i] [i] [] :=
 ⟨by simp,by simp,fun s hs=>by simp at hs;subst hs;exact hi,fun s hs=>by simp at hs;subst hs;exact .init,by simp,fun s hs=>by cases hs⟩
theorem Known.next {i s:S} {R seen pile done:List S} (h:Known succ i R seen (pile++[s]) done) (hR : ∀ s∈R,∀ n∈succ s,n∈R) :
  ∃ seen' pile',(succ s).foldl push (seen,pile)=(seen',pile')/\Known succ i R seen' pile' (done++[s])/\seen'.length+(pile.length+1)=seen.length+(pile'.length+1):=by
 obtain ⟨new,h1,h2,h3,h4⟩:=a5n (succ s) seen pile h.nodup;have hs:s∈seen:=h.perm.mem_iff.2 (by simp);refine ⟨_,_,h1,⟨h2,?_,fun n hn => ?_,fun n hn => ?_,List.mem_append_left _ h.init,fun t ht n hn => ?_⟩,by simp;omega⟩
 ·refine (h.perm.append_right new).trans ?_;simp only [List.append_assoc];refine List.Perm.append_left done ?_;rw [<-List.append_assoc,<-List.append_assoc];exact (List.perm_append_comm (l₁:=pile) (l₂:=[s])).append_right new
 ·rcases List.mem_append.1 hn with hn | hn
  ·exact h.inR n hn
  exact hR s (h.inR s hs) n (h3 n hn)
 ·rcases List.mem_append.1 hn with hn | hn
  ·exact h.reach n hn
  exact .step (h.reach s hs) (h3 n hn)
 rcases List.mem_append.1 ht with ht | ht
 ·exact List.mem_append_left _ (h.closed t ht n hn)
 simp at ht;subst ht;exact h4 n hn
theorem Known.end {i:S} {R seen done:List S} (h:Known succ i R seen [] done) (s:S):s∈done↔Reach succ i s:=by
 have hp:=h.perm;rw [List.append_nil] at hp;refine ⟨fun hs=>h.reach s (hp.mem_iff.2 hs),fun hr => ?_⟩
 induction hr with
 | init=>exact hp.mem_iff.1 h.init
 | step _ hn ih=>exact hp.mem_iff.1 (h.closed _ ih _ hn)
theorem Known.len {i:S} {R seen pile done:List S} (h:Known succ i R seen pile done):seen.length<=R.length/\pile.length<=R.length/\done.length<=R.length:=by
 have h1:=a7t h.nodup h.inR;have h2:=h.perm.length_eq;rw [List.length_append] at h2;omega
end
end Go.Am

namespace Go.Am
abbrev Ac:=Int×Int×Int
abbrev Pg:=List (List Ac)
def thr (P:Pg) (t:Nat):List Ac:=P.getD t []
def aAt (l:List Ac) (i:Nat):Ac:=l.getD i (3,0,0)
def fup {α β:Type} [DecidableEq α] (f:α->β) (a:α) (b:β):α->β:=fun x=>if x=a then b else f x
section
variable {α β:Type} [DecidableEq α] (f:α->β) (a:α) (b:β)
@[simp] theorem a1H:fup f a b a=b:=by simp [fup]
theorem a0I {x:α} (h:x≠a):fup f a b x=f x:=by simp [fup,h]
end
abbrev TS:=(Nat->Bool)×List (Int×Int)
def must (k:Nat) (a b:Ac):Prop:=k≠3\/a.1=3\/b.1=3\/a.2.1=b.2.1
instance (k:Nat) (a b:Ac):Decidable (must k a b):=inferInstanceAs (Decidable (_\/_))
def b2l (k:Nat) (l:List Ac) (x:TS) (i:Nat):Prop :=
 x.1 i=false/\(∀ j,j<i->must k (aAt l i) (aAt l j)->x.1 j=true)/\(k=2->(aAt l i).1=3->x.2=[])
def silent (k:Nat) (a:Ac):Prop:=a.1=3\/(a.1=2/\k=2)
instance (k:Nat) (a:Ac):Decidable (silent k a):=inferInstanceAs (Decidable (_\/_))
def stepT (k:Nat) (l:List Ac) (i:Nat) (x:TS):TS:=(fup x.1 i true,if (aAt l i).1=2/\k=2 then x.2++[((aAt l i).2.1,(aAt l i).2.2)] else x.2)
open Classical in
noncomputable def c5u (k:Nat) (l:List Ac) (x:TS) (i:Nat):TS:=if b2l k l x i/\silent k (aAt l i) then stepT k l i x else x
noncomputable def nrT (k:Nat) (l:List Ac) (x:TS):TS:=(List.range l.length).foldl (c5u k l) x
section
variable {k:Nat} {l:List Ac}
end
structure AS where
 dn:Nat->Nat->Bool
 rd:Nat->Nat->Int
 bf:Nat->List (Int×Int)
 ce:Int->Int
def AS.init:AS:=⟨fun _ _=>false,fun _ _=>0,fun _=>[],fun _=>0⟩
def AS.t (s:AS) (t:Nat):TS:=(s.dn t,s.bf t)
def sn (s:AS) (t:Nat) (c:Int):Int:=(s.bf t).foldl (fun v e=>if e.1=c then e.2 else v) (s.ce c)
def doA (k:Nat) (P:Pg) (s:AS) (t i:Nat):AS :=
 { dn:=fup s.dn t (fup (s.dn t) i true)
   rd:=if (aAt (thr P t) i).1=1 then fup s.rd t (fup (s.rd t) i (sn s t (aAt (thr P t) i).2.1)) else s.rd
   bf:=if (aAt (thr P t) i).1=2/\k=2 then fup s.bf t (s.bf t++[((aAt (thr P t) i).2.1,(aAt (thr P t) i).2.2)]) else s.bf
   ce:=if (aAt (thr P t) i).1=2/\k≠2 then fup s.ce (aAt (thr P t) i).2.1 (aAt (thr P t) i).2.2 else s.ce }
def c4d (s:AS) (t:Nat):AS:=match s.bf t with
 | []=>s
 | x::r=>{ s with bf:=fup s.bf t r,ce:=fup s.ce x.1 x.2 }
inductive Stp (k:Nat) (P:Pg):AS->AS->Prop
 | act {s:AS} (t i:Nat) (ht:t<P.length) (hi:i<(thr P t).length) (hm:b2l k (thr P t) (s.t t) i):Stp k P s (doA k P s t i)
 | out {s:AS} (t:Nat) (ht:t<P.length) (hk:k=2) (hb:s.bf t≠[]):Stp k P s (c4d s t)
inductive Stps (k:Nat) (P:Pg):AS->AS->Prop
 | refl (s:AS):Stps k P s s
 | tail {s u v:AS} (h:Stps k P s u) (h':Stp k P u v):Stps k P s v
theorem Stps.trans {k:Nat} {P:Pg} {s u v:AS} (h:Stps k P s u) (h':Stps k P u v):Stps k P s v:=by
 induction h' with
 | refl=>exact h
 | tail _ h2 ih=>exact .tail ih h2
theorem Stps.one {k:Nat} {P:Pg} {s u:AS} (h:Stp k P s u):Stps k P s u := .tail (.refl _) h
def b9A (P:Pg) (s:AS):Prop := ∀ t,t<P.length->(∀ i,i<(thr P t).length->s.dn t i=true)/\s.bf t=[]
def reads (l:List Ac) (r:Nat->Int):List Int:=(List.range l.length).filterMap fun i=>if (aAt l i).1=1 then some (r i) else none
def b6Y (P:Pg) (s:AS):List Int:=((List.range P.length).flatMap fun t=>reads (thr P t) (s.rd t))++[s.ce 0,s.ce 1,s.ce 2]
def Can (k:Nat) (P:Pg) (o:List Int):Prop := ∃ s,Stps k P AS.init s/\b9A P s/\b6Y P s=o
noncomputable def nrm (k:Nat) (P:Pg) (s:AS):AS:={ s with dn:=fun t=>(nrT k (thr P t) (s.t t)).1,bf:=fun t=>(nrT k (thr P t) (s.t t)).2 }
section
variable {k:Nat} {P:Pg}
theorem AS.ext {s u:AS} (h1 : ∀ t,s.t t=u.t t) (h2:s.rd=u.rd) (h3:s.ce=u.ce):s=u:=by
 cases s;cases u;simp only at h2 h3;subst h2 h3;congr
 ·funext t;exact congrArg Prod.fst (h1 t)
 funext t;exact congrArg Prod.snd (h1 t)
end
inductive RSt (k:Nat) (P:Pg):AS->AS->Prop
 | act {s:AS} (t i:Nat) (ht:t<P.length) (hi:i<(thr P t).length) (hm:b2l k (thr P t) (s.t t) i) (hv : ¬ silent k (aAt (thr P t) i)):RSt k P s (nrm k P (doA k P s t i))
 | out {s:AS} (t:Nat) (ht:t<P.length) (hk:k=2) (hb:s.bf t≠[]):RSt k P s (nrm k P (c4d s t))
inductive RSts (k:Nat) (P:Pg):AS->AS->Prop
 | refl (s:AS):RSts k P s s
 | tail {s u v:AS} (h:RSts k P s u) (h':RSt k P u v):RSts k P s v
section
variable {k:Nat} {P:Pg}
theorem b3N {s:AS} (h1 : ∀ t i,t<P.length->i<(thr P t).length -> ¬ b2l k (thr P t) (s.t t) i) (h2 : ∀ t,t<P.length->s.bf t=[]):b9A P s:=by
 intro t ht;refine ⟨fun i hi => ?_,h2 t ht⟩;have key : ∀ n,n<=(thr P t).length -> ∀ j,j<n->s.dn t j=true:=by
  intro n
  induction n with
  | zero=>intro _ j hj;omega
  | succ n ih =>
    intro hn j hj;rcases Nat.lt_or_eq_of_le (Nat.le_of_lt_succ hj) with h | h
    ·exact ih (by omega) j h
    subst h;cases hd:s.dn t j with
    | true=>rfl
    | false=>exact absurd ⟨hd,fun q hq _=>ih (by omega) q hq,fun _ _=>h2 t ht⟩ (h1 t j ht (by omega))
 exact key _ (Nat.le_refl _) i hi
end
end Go.Am
