import Derived.Test.YtlljehkmemajkaaAmLaw
set_option maxRecDepth 100000
set_option linter.unusedVariables false
set_option linter.unusedSimpArgs false
set_option linter.unusedSectionVars false
namespace Go.Am
theorem b7w {S X:Type} {step:S->Option (S⊕X)} (Inv:S->Prop) (μ:S->Nat) (Q:X->Prop)
  (h : ∀ s,Inv s->(∃ s',step s=some (.inl s')/\Inv s'/\μ s'<μ s) \/ ∃ x,step s=some (.inr x)/\Q x) : ∀ s,Inv s -> ∃ x,iter step s=some x/\Q x:=by
 have key : ∀ (n:Nat) (s:S),μ s<n->Inv s -> ∃ x,iter step s=some x/\Q x:=by
  intro n
  induction n with
  | zero=>intro s hs;omega
  | succ n ih =>
    intro s hs hI;rcases h s hI with ⟨s',h1,h2,h3⟩ | ⟨x,h1,h2⟩
    ·rw [a1d h1];exact ih s' (by omega) h2
    exact ⟨x,a0E h1,h2⟩
 exact fun s hI=>key (μ s+1) s (by omega) hI
theorem a5h {α:Type} [DecidableEq α] : ∀ {l m:List α},l.Nodup->(∀ a∈l,a∈m)->l.length<=m.length
 | [],m,_,_=>Nat.zero_le _
 | a::l,m,hn,hm=>by
   rw [List.nodup_cons] at hn;have h1:=a5h (l:=l) (m:=m.erase a) hn.2 fun b hb=>by
    have hne:b≠a:=fun e=>hn.1 (e▸hb);exact (List.mem_erase_of_ne hne).2 (hm b (by simp [hb]))
   have h2:=List.length_erase_of_mem (hm a (by simp));have h3:=List.length_pos_of_mem (hm a (by simp));simp only [List.length_cons];omega
section
variable {S:Type} [DecidableEq S] (succ:S->List S)
inductive Reach (i:S):S->Prop
 | init:Reach i i
 | step {s n:S} (h:Reach i s) (hn:n∈succ s):Reach i n
def push (q:List S×List S) (n:S):List S×List S:=if n∈q.1 then q else (q.1++[n],q.2++[n])
theorem a5i : ∀ (l:List S) (seen pile:List S),seen.Nodup -> ∃ new:List S,l.foldl push (seen,pile)=(seen++new,pile++new)/\(seen++new).Nodup/\(∀ n∈new,n∈l) /\ ∀ n∈l,n∈seen++new
 | [],seen,pile,h=>⟨[],by simp,by simpa using h,fun n hn=>(by cases hn),fun n hn=>(by cases hn)⟩
 | a::l,seen,pile,h=>by
   rw [List.foldl_cons];by_cases ha:a∈seen
   ·have e:push (seen,pile) a=(seen,pile):=by unfold push;rw [if_pos ha]
    rw [e];obtain ⟨new,h1,h2,h3,h4⟩:=a5i l seen pile h;refine ⟨new,h1,h2,fun n hn=>List.mem_cons_of_mem _ (h3 n hn),fun n hn => ?_⟩;rcases List.mem_cons.1 hn with rfl | hn
    ·exact List.mem_append_left _ ha
    exact h4 n hn
   have e:push (seen,pile) a=(seen++[a],pile++[a]):=by unfold push;rw [if_neg ha]
   rw [e];have hn:(seen++[a]).Nodup:=by
    rw [List.nodup_append];exact ⟨h,by simp,fun x hx y hy=>by simp at hy;subst hy;exact fun e=>ha (e▸hx)⟩
   obtain ⟨new,h1,h2,h3,h4⟩:=a5i l (seen++[a]) (pile++[a]) hn;refine ⟨a::new,by rw [h1];simp,by simpa using h2,fun n hn => ?_,fun n hn => ?_⟩
   ·rcases List.mem_cons.1 hn with rfl | hn
    ·simp
    exact List.mem_cons_of_mem _ (h3 n hn)
   rcases List.mem_cons.1 hn with rfl | hn
   ·simp
   have:=h4 n hn;simpa using this
structure Known (i:S) (R seen pile done:List S):Prop where
 nodup:seen.Nodup
 perm:seen.Perm (done++pile)
 inR : ∀ s∈seen,s∈R
 reach : ∀ s∈seen,Reach succ i s
 init:i∈seen
 closed : ∀ s∈done,∀ n∈succ s,n∈seen
theorem Known.start {i:S} {R:List S} (hi:i∈R):Known succ i R [i] [i] [] :=
 ⟨by simp,by simp,fun s hs=>by simp at hs;subst hs;exact hi,fun s hs=>by simp at hs;subst hs;exact .init,by simp,fun s hs=>by cases hs⟩
theorem Known.next {i s:S} {R seen pile done:List S} (h:Known succ i R seen (pile++[s]) done) (hR : ∀ s∈R,∀ n∈succ s,n∈R) :
  ∃ seen' pile',(succ s).foldl push (seen,pile)=(seen',pile')/\Known succ i R seen' pile' (done++[s])/\seen'.length+(pile.length+1)=seen.length+(pile'.length+1):=by
 obtain ⟨new,h1,h2,h3,h4⟩:=a5i (succ s) seen pile h.nodup;have hs:s∈seen:=h.perm.mem_iff.2 (by simp);refine ⟨_,_,h1,⟨h2,?_,fun n hn => ?_,fun n hn => ?_,List.mem_append_left _ h.init,fun t ht n hn => ?_⟩,by simp;omega⟩
 ·refine (h.perm.append_right new).trans ?_;simp only [List.append_assoc];refine List.Perm.append_left done ?_;rw [<-List.append_assoc,<-List.append_assoc];exact (List.perm_append_comm (l₁:=pile) (l₂:=[s])).append_right new
 ·rcases List.mem_append.1 hn with hn | hn
  ·exact h.inR n hn
  exact hR s (h.inR s hs) n (h3 n hn)
 ·rcases List.mem_append.1 hn with hn | hn
  ·exact h.reach n hn
  exact .step (h.reach s hs) (h3 n hn)
 rcases List.mem_append.1 ht with ht | ht
 ·exact List.mem_append_left _ (h.closed t ht n hn)
 simp at ht;subst ht;exact h4 n hn
theorem Known.end {i:S} {R seen done:List S} (h:Known succ i R seen [] done) (s:S):s∈done↔Reach succ i s:=by
 have hp:=h.perm;rw [List.append_nil] at hp;refine ⟨fun hs=>h.reach s (hp.mem_iff.2 hs),fun hr => ?_⟩
 induction hr with
 | init=>exact hp.mem_iff.1 h.init
 | step _ hn ih=>exact hp.mem_iff.1 (h.closed _ ih _ hn)
theorem Known.len {i:S} {R seen pile done:List S} (h:Known succ i R seen pile done):seen.length<=R.length/\pile.length<=R.length/\done.length<=R.length:=by
 have h1:=a5h h.nodup h.inR;have h2:=h.perm.length_eq;rw [List.length_append] at h2;omega
end
end Go.Am

namespace Go.Am
abbrev Ac:=Int×Int×Int
abbrev Pg:=List (List Ac)
def thr (P:Pg) (t:Nat):List Ac:=P.getD t []
def aAt (l:List Ac) (i:Nat):Ac:=l.getD i (3,0,0)
def fup {α β:Type} [DecidableEq α] (f:α->β) (a:α) (b:β):α->β:=fun x=>if x=a then b else f x
section
variable {α β:Type} [DecidableEq α] (f:α->β) (a:α) (b:β)
@[simp] theorem a0g:fup f a b a=b:=by simp [fup]
theorem a0c {x:α} (h:x≠a):fup f a b x=f x:=by simp [fup,h]
theorem b7x (c:β):fup (fup f a b) a c=fup f a c:=by funext x;unfold fup;split <;> rfl
theorem a5O:fup f a (f a)=f:=by funext x;unfold fup;split <;> simp_all
end
abbrev TS:=(Nat->Bool)×List (Int×Int)
def must (k:Nat) (a b:Ac):Prop:=k≠3\/a.1=3\/b.1=3\/a.2.1=b.2.1
instance (k:Nat) (a b:Ac):Decidable (must k a b):=inferInstanceAs (Decidable (_\/_))
def a2G (k:Nat) (l:List Ac) (x:TS) (i:Nat):Prop :=
 x.1 i=false/\(∀ j,j<i->must k (aAt l i) (aAt l j)->x.1 j=true)/\(k=2->(aAt l i).1=3->x.2=[])
def silent (k:Nat) (a:Ac):Prop:=a.1=3\/(a.1=2/\k=2)
instance (k:Nat) (a:Ac):Decidable (silent k a):=inferInstanceAs (Decidable (_\/_))
def stepT (k:Nat) (l:List Ac) (i:Nat) (x:TS):TS:=(fup x.1 i true,if (aAt l i).1=2/\k=2 then x.2++[((aAt l i).2.1,(aAt l i).2.2)] else x.2)
open Classical in
noncomputable def a6j (k:Nat) (l:List Ac) (x:TS) (i:Nat):TS:=if a2G k l x i/\silent k (aAt l i) then stepT k l i x else x
noncomputable def nrT (k:Nat) (l:List Ac) (x:TS):TS:=(List.range l.length).foldl (a6j k l) x
section
variable {k:Nat} {l:List Ac}
theorem a3K {x:TS} {i:Nat} (h:a2G k l x i) (hs:silent k (aAt l i)) : ∀ j,j<i->x.1 j=true:=by
 intro j hj;refine h.2.1 j hj ?_;rcases hs with hs | ⟨_,hs⟩
 ·exact .inr (.inl hs)
 exact .inl (by omega)
def a6Q (k:Nat) (l:List Ac) (x:TS) (n:Nat):Prop := ∀ i,i<n->silent k (aAt l i) -> ¬ a2G k l x i
theorem a4z {x:TS} {n:Nat} (h:a6Q k l x n):(List.range n).foldl (a6j k l) x=x:=by
 induction n with
 | zero=>rfl
 | succ n ih =>
   rw [List.range_succ,List.foldl_append,ih (fun i hi=>h i (by omega))];simp only [List.foldl_cons,List.foldl_nil,a6j];rw [if_neg];rintro ⟨h1,h2⟩;exact h n (by omega) h2 h1
theorem a3r {x:TS} {n:Nat} (h : ∀ j,j<n->x.1 j=true):a6Q k l x n:=by
 intro i hi _ hm;have:=hm.1;rw [h i hi] at this;cases this
theorem b1L (x:TS) (n:Nat):a6Q k l ((List.range n).foldl (a6j k l) x) n:=by
 induction n with
 | zero=>intro i hi;omega
 | succ n ih =>
   rw [List.range_succ,List.foldl_append];simp only [List.foldl_cons,List.foldl_nil];generalize hy:(List.range n).foldl (a6j k l) x=y at ih;unfold a6j;split
   ·rename_i h;refine a3r fun j hj => ?_;simp only [stepT];by_cases hjn:j=n
    ·rw [hjn,a0g]
    rw [a0c _ _ _ hjn];exact a3K h.1 h.2 j (by omega)
   rename_i h;intro i hi hs hm;by_cases hin:i=n
   ·subst hin;exact h ⟨hm,hs⟩
   exact ih i (by omega) hs hm
theorem b0F (x:TS):a6Q k l (nrT k l x) l.length:=b1L x _
theorem b7y {x:TS} (h:a6Q k l x l.length):nrT k l x=x:=a4z h
theorem a9N (x:TS):nrT k l (nrT k l x)=nrT k l x:=b7y (b0F x)
theorem a2H {α:Type} (f:α->Nat->α) (x:α) {i n:Nat} (h:i<n):(List.range n).foldl f x=((List.range' (i+1) (n-(i+1))).foldl f (f ((List.range i).foldl f x) i)):=by
 have:List.range n=List.range i++i::List.range' (i+1) (n-(i+1)):=by
  rw [List.range_eq_range',List.range_eq_range',<-List.range'_succ];have e:n-(i+1)+1=n-i:=by omega
  rw [e];have:=List.range'_append (s:=0) (m:=i) (n:=n-i) (step:=1);simp only [Nat.one_mul,Nat.zero_add] at this;rw [this];congr 1;omega
 rw [this,List.foldl_append,List.foldl_cons]
theorem b3v {x:TS} {i:Nat} (hi:i<l.length) (h:a2G k l x i) (hs:silent k (aAt l i)):nrT k l (stepT k l i x)=nrT k l x:=by
 have hb:=a3K h hs;have hb' : ∀ j,j<i+1->(stepT k l i x).1 j=true:=by
  intro j hj;simp only [stepT];by_cases hji:j=i
  ·rw [hji,a0g]
  rw [a0c _ _ _ hji];exact hb j (by omega)
 unfold nrT;rw [a2H _ _ hi,a2H _ x hi,a4z (a3r hb),a4z (a3r (fun j hj=>hb' j (by omega)))];congr 1;have e1:a6j k l x i=stepT k l i x:=by unfold a6j;rw [if_pos ⟨h,hs⟩]
 rw [e1];unfold a6j;rw [if_neg];rintro ⟨h1,_⟩;have:=h1.1;rw [hb' i (by omega)] at this;cases this
theorem b3w {x:TS} {i:Nat} (h:a2G k l x i) (hs : ¬ silent k (aAt l i)) (n:Nat):a6Q k l x n:=by
 intro j _ hj hm;have hb:=a3K hm hj;rcases Nat.lt_trichotomy j i with hc | hc | hc
 ·have:=h.2.1 j hc (by
   rcases hj with hj | ⟨_,hj⟩
   ·exact .inr (.inr (.inl hj))
   exact .inl (by omega))
  rw [hm.1] at this;cases this
 ·subst hc;exact hs hj
 have:=hb i hc;rw [h.1] at this;cases this
theorem b9F {x:TS} {i:Nat} (h:a2G k l x i) (hs : ¬ silent k (aAt l i)):nrT k l x=x:=b7y (b3w h hs _)
theorem b9G (hk:k=2) {d:Nat->Bool} {e:Int×Int} {r:List (Int×Int)} : ∃ d' r',nrT k l (d,e::r)=(d',e::r')/\nrT k l (d',r')=nrT k l (d,r):=by
 have key : ∀ n,n<=l.length -> ∃ d' r',(List.range n).foldl (a6j k l) (d,e::r)=(d',e::r')/\nrT k l (d',r')=nrT k l (d,r):=by
  intro n
  induction n with
  | zero=>intro _;exact ⟨d,r,rfl,rfl⟩
  | succ n ih =>
    intro hn;obtain ⟨d',r',h1,h2⟩:=ih (by omega);rw [List.range_succ,List.foldl_append,h1];simp only [List.foldl_cons,List.foldl_nil];unfold a6j;split
    ·rename_i h;obtain ⟨hm,hs⟩:=h;have hne:(aAt l n).1≠3:=by intro h3;have:=hm.2.2 hk h3;cases this
     rcases hs with hs | hs
     ·exact absurd hs hne
     have hm':a2G k l (d',r') n:=⟨hm.1,hm.2.1,fun _ h3=>absurd h3 hne⟩;refine ⟨fup d' n true,r'++[((aAt l n).2.1,(aAt l n).2.2)],?_,?_⟩
     ·unfold stepT;rw [if_pos hs];rfl
     rw [<-h2,<-b3v (by omega) hm' (.inr hs)];unfold stepT;rw [if_pos hs]
    exact ⟨d',r',rfl,h2⟩
 exact key _ (Nat.le_refl _)
end
structure AS where
 dn:Nat->Nat->Bool
 rd:Nat->Nat->Int
 bf:Nat->List (Int×Int)
 ce:Int->Int
def AS.init:AS:=⟨fun _ _=>false,fun _ _=>0,fun _=>[],fun _=>0⟩
def AS.t (s:AS) (t:Nat):TS:=(s.dn t,s.bf t)
def sn (s:AS) (t:Nat) (c:Int):Int:=(s.bf t).foldl (fun v e=>if e.1=c then e.2 else v) (s.ce c)
def doA (k:Nat) (P:Pg) (s:AS) (t i:Nat):AS :=
 { dn:=fup s.dn t (fup (s.dn t) i true)
   rd:=if (aAt (thr P t) i).1=1 then fup s.rd t (fup (s.rd t) i (sn s t (aAt (thr P t) i).2.1)) else s.rd
   bf:=if (aAt (thr P t) i).1=2/\k=2 then fup s.bf t (s.bf t++[((aAt (thr P t) i).2.1,(aAt (thr P t) i).2.2)]) else s.bf
   ce:=if (aAt (thr P t) i).1=2/\k≠2 then fup s.ce (aAt (thr P t) i).2.1 (aAt (thr P t) i).2.2 else s.ce }
def outB (s:AS) (t:Nat):AS:=match s.bf t with
 | []=>s
 | x::r=>{ s with bf:=fup s.bf t r,ce:=fup s.ce x.1 x.2 }
inductive Stp (k:Nat) (P:Pg):AS->AS->Prop
 | act {s:AS} (t i:Nat) (ht:t<P.length) (hi:i<(thr P t).length) (hm:a2G k (thr P t) (s.t t) i):Stp k P s (doA k P s t i)
 | out {s:AS} (t:Nat) (ht:t<P.length) (hk:k=2) (hb:s.bf t≠[]):Stp k P s (outB s t)
inductive Stps (k:Nat) (P:Pg):AS->AS->Prop
 | refl (s:AS):Stps k P s s
 | tail {s u v:AS} (h:Stps k P s u) (h':Stp k P u v):Stps k P s v
theorem Stps.trans {k:Nat} {P:Pg} {s u v:AS} (h:Stps k P s u) (h':Stps k P u v):Stps k P s v:=by
 induction h' with
 | refl=>exact h
 | tail _ h2 ih=>exact .tail ih h2
theorem Stps.one {k:Nat} {P:Pg} {s u:AS} (h:Stp k P s u):Stps k P s u := .tail (.refl _) h
def b0G (P:Pg) (s:AS):Prop := ∀ t,t<P.length->(∀ i,i<(thr P t).length->s.dn t i=true)/\s.bf t=[]
def reads (l:List Ac) (r:Nat->Int):List Int:=(List.range l.length).filterMap fun i=>if (aAt l i).1=1 then some (r i) else none
def a8c (P:Pg) (s:AS):List Int:=((List.range P.length).flatMap fun t=>reads (thr P t) (s.rd t))++[s.ce 0,s.ce 1,s.ce 2]
def Can (k:Nat) (P:Pg) (o:List Int):Prop := ∃ s,Stps k P AS.init s/\b0G P s/\a8c P s=o
noncomputable def nrm (k:Nat) (P:Pg) (s:AS):AS:={ s with dn:=fun t=>(nrT k (thr P t) (s.t t)).1,bf:=fun t=>(nrT k (thr P t) (s.t t)).2 }
section
variable {k:Nat} {P:Pg}
theorem a5a (s:AS) (t:Nat):(nrm k P s).t t=nrT k (thr P t) (s.t t):=rfl
theorem AS.ext {s u:AS} (h1 : ∀ t,s.t t=u.t t) (h2:s.rd=u.rd) (h3:s.ce=u.ce):s=u:=by
 cases s;cases u;simp only at h2 h3;subst h2 h3;congr
 ·funext t;exact congrArg Prod.fst (h1 t)
 funext t;exact congrArg Prod.snd (h1 t)
theorem b5t (s:AS) (t i u:Nat):(doA k P s t i).t u=if u=t then stepT k (thr P t) i (s.t t) else s.t u:=by
 unfold AS.t doA stepT;by_cases h:u=t
 ·subst h;simp only [a0g,if_true];congr 1;split <;> simp_all [fup]
 rw [if_neg h];simp only [a0c _ _ _ h];congr 1;split <;> simp [fup,h]
theorem a5P {a:Ac} (h:silent k a) : ¬ a.1=1 /\ ¬ (a.1=2/\k≠2):=by
 rcases h with h | ⟨h,h'⟩
 ·exact ⟨by omega,by omega⟩
 exact ⟨by omega,by omega⟩
theorem b1M {s:AS} {t i:Nat} (hi:i<(thr P t).length) (hm:a2G k (thr P t) (s.t t) i) (hs:silent k (aAt (thr P t) i)):nrm k P (doA k P s t i)=nrm k P s:=by
 obtain ⟨h1,h2⟩:=a5P hs;refine AS.ext (fun u => ?_) (by simp only [nrm,doA,if_neg h1]) (by simp only [nrm,doA,if_neg h2]);rw [a5a,a5a,b5t];by_cases h:u=t
 ·subst h;rw [if_pos rfl,b3v hi hm hs]
 rw [if_neg h]
theorem b7z {s:AS} {t i:Nat} (hm:a2G k (thr P t) (s.t t) i) (hs : ¬ silent k (aAt (thr P t) i)) :
  a2G k (thr P t) ((nrm k P s).t t) i/\nrm k P (doA k P (nrm k P s) t i)=nrm k P (doA k P s t i):=by
 have e:(nrm k P s).t t=s.t t:=by rw [a5a,b9F hm hs]
 have eb:(nrm k P s).bf t=s.bf t:=congrArg Prod.snd e;refine ⟨by rw [e];exact hm,AS.ext (fun u => ?_) ?_ rfl⟩
 ·rw [a5a,a5a,b5t,b5t,e];by_cases h:u=t
  ·subst h;rw [if_pos rfl,if_pos rfl]
  rw [if_neg h,if_neg h,a5a,a9N]
 have esn : ∀ c,sn (nrm k P s) t c=sn s t c:=fun c=>by unfold sn;rw [eb];rfl
 simp only [nrm,doA] at esn ⊢;rw [esn]
theorem b7A (hk:k=2) {s:AS} {t:Nat} (hb:s.bf t≠[]):(nrm k P s).bf t≠[]/\nrm k P (outB (nrm k P s) t)=nrm k P (outB s t):=by
 cases hbt:s.bf t with
 | nil=>exact absurd hbt hb
 | cons e r =>
   obtain ⟨d',r',h1,h2⟩:=b9G (k:=k) (l:=thr P t) hk (d:=s.dn t) (e:=e) (r:=r);have hst:s.t t=(s.dn t,e::r):=by unfold AS.t;rw [hbt]
   have hnb:(nrm k P s).bf t=e::r':=by show (nrT k (thr P t) (s.t t)).2=_;rw [hst,h1]
   have hnd:(nrm k P s).dn t=d':=by show (nrT k (thr P t) (s.t t)).1=_;rw [hst,h1]
   refine ⟨by rw [hnb];simp,?_⟩;have e1:outB (nrm k P s) t={ nrm k P s with bf:=fup (nrm k P s).bf t r',ce:=fup (nrm k P s).ce e.1 e.2 }:=by unfold outB;rw [hnb]
   have e2:outB s t={ s with bf:=fup s.bf t r,ce:=fup s.ce e.1 e.2 }:=by unfold outB;rw [hbt]
   rw [e1,e2];refine AS.ext (fun u => ?_) rfl rfl;rw [a5a,a5a];unfold AS.t;by_cases h:u=t
   ·subst h;simp only [a0g,hnd];exact h2
   simp only [a0c _ _ _ h];have:=a9N (k:=k) (l:=thr P u) (s.t u);exact this
theorem b1N (s:AS) (t:Nat) (ht:t<P.length):Stps k P s { s with dn:=fup s.dn t (nrT k (thr P t) (s.t t)).1,bf:=fup s.bf t (nrT k (thr P t) (s.t t)).2 }:=by
 have key : ∀ n,n<=(thr P t).length->Stps k P s { s with dn:=fup s.dn t ((List.range n).foldl (a6j k (thr P t)) (s.t t)).1,bf:=fup s.bf t ((List.range n).foldl (a6j k (thr P t)) (s.t t)).2 }:=by
  intro n
  induction n with
  | zero =>
    intro _;simp only [List.range_zero,List.foldl_nil];have:({ s with dn:=fup s.dn t (s.t t).1,bf:=fup s.bf t (s.t t).2 }:AS)=s:=by
     unfold AS.t;simp only [a5O]
    rw [this];exact .refl _
  | succ n ih =>
    intro hn;have ih:=ih (by omega);rw [List.range_succ,List.foldl_append];simp only [List.foldl_cons,List.foldl_nil];generalize (List.range n).foldl (a6j k (thr P t)) (s.t t)=y at ih;unfold a6j;split
    ·rename_i h;obtain ⟨hm,hs⟩:=h;obtain ⟨h1,h2⟩:=a5P hs;have et:({ s with dn:=fup s.dn t y.1,bf:=fup s.bf t y.2 }:AS).t t=y:=by unfold AS.t;simp
     have:=Stp.act (k:=k) (P:=P) (s:={ s with dn:=fup s.dn t y.1,bf:=fup s.bf t y.2 }) t n ht (by omega) (by rw [et];exact hm)
     have e2:doA k P { s with dn:=fup s.dn t y.1,bf:=fup s.bf t y.2 } t n={ s with dn:=fup s.dn t (stepT k (thr P t) n y).1,bf:=fup s.bf t (stepT k (thr P t) n y).2 }:=by
      refine AS.ext (fun u => ?_) (by simp only [doA,if_neg h1]) (by simp only [doA,if_neg h2]);rw [b5t,et];unfold AS.t;by_cases h:u=t
      ·subst h;rw [if_pos rfl];simp
      rw [if_neg h];simp only [a0c _ _ _ h]
     rw [e2] at this;exact .tail ih this
    exact ih
 exact key _ (Nat.le_refl _)
theorem a3s (s:AS):Stps k P s (nrm k P s):=by
 have key : ∀ n,n<=P.length->Stps k P s { s with dn:=fun t=>if t<n then (nrT k (thr P t) (s.t t)).1 else s.dn t,bf:=fun t=>if t<n then (nrT k (thr P t) (s.t t)).2 else s.bf t }:=by
  intro n
  induction n with
  | zero=>intro _;simp only [Nat.not_lt_zero,if_false];exact .refl _
  | succ n ih =>
    intro hn;refine (ih (by omega)).trans ?_;have:=b1N (k:=k) (P:=P) { s with dn:=fun t=>if t<n then (nrT k (thr P t) (s.t t)).1 else s.dn t,bf:=fun t=>if t<n then (nrT k (thr P t) (s.t t)).2 else s.bf t } n (by omega)
    have et:({ s with dn:=fun t=>if t<n then (nrT k (thr P t) (s.t t)).1 else s.dn t,bf:=fun t=>if t<n then (nrT k (thr P t) (s.t t)).2 else s.bf t }:AS).t n=s.t n:=by
     unfold AS.t;simp
    rw [et] at this;refine Eq.mp (congrArg (Stps k P _) ?_) this;congr 1
    ·funext t;unfold fup;by_cases h:t=n
     ·subst h;simp
     rw [if_neg h];dsimp only;by_cases h2:t<n
     ·rw [if_pos h2,if_pos (by omega)]
     rw [if_neg h2,if_neg (by omega)]
    funext t;unfold fup;by_cases h:t=n
    ·subst h;simp
    rw [if_neg h];dsimp only;by_cases h2:t<n
    ·rw [if_pos h2,if_pos (by omega)]
    rw [if_neg h2,if_neg (by omega)]
 have:=key P.length (Nat.le_refl _);refine Eq.mp (congrArg (Stps k P _) ?_) this;unfold nrm;have hz : ∀ t,¬ t<P.length->nrT k (thr P t) (s.t t)=s.t t:=by
  intro t ht;have:thr P t=[]:=by unfold thr;rw [List.getD_eq_getElem?_getD,List.getElem?_eq_none (by omega)];rfl
  unfold nrT;rw [this];rfl
 congr 1
 ·funext t;by_cases h:t<P.length
  ·rw [if_pos h]
  rw [if_neg h,hz t h];rfl
 funext t;by_cases h:t<P.length
 ·rw [if_pos h]
 rw [if_neg h,hz t h];rfl
end
inductive RSt (k:Nat) (P:Pg):AS->AS->Prop
 | act {s:AS} (t i:Nat) (ht:t<P.length) (hi:i<(thr P t).length) (hm:a2G k (thr P t) (s.t t) i) (hv : ¬ silent k (aAt (thr P t) i)):RSt k P s (nrm k P (doA k P s t i))
 | out {s:AS} (t:Nat) (ht:t<P.length) (hk:k=2) (hb:s.bf t≠[]):RSt k P s (nrm k P (outB s t))
inductive RSts (k:Nat) (P:Pg):AS->AS->Prop
 | refl (s:AS):RSts k P s s
 | tail {s u v:AS} (h:RSts k P s u) (h':RSt k P u v):RSts k P s v
section
variable {k:Nat} {P:Pg}
theorem RSt.stps {s u:AS} (h:RSt k P s u):Stps k P s u:=by
 cases h with
 | act t i ht hi hm hv=>exact (Stps.one (.act t i ht hi hm)).trans (a3s _)
 | out t ht hk hb=>exact (Stps.one (.out t ht hk hb)).trans (a3s _)
theorem RSts.stps {s u:AS} (h:RSts k P s u):Stps k P s u:=by
 induction h with
 | refl=>exact .refl _
 | tail _ h ih=>exact ih.trans h.stps
theorem Stps.rsts {s u:AS} (h:Stps k P s u):RSts k P (nrm k P s) (nrm k P u):=by
 induction h with
 | refl=>exact .refl _
 | tail _ h ih =>
   cases h with
   | act t i ht hi hm =>
     by_cases hs:silent k (aAt (thr P t) i)
     ·rw [b1M hi hm hs];exact ih
     obtain ⟨h1,h2⟩:=b7z hm hs;rw [<-h2];exact .tail ih (.act t i ht hi h1 hs)
   | out t ht hk hb =>
     obtain ⟨h1,h2⟩:=b7A (P:=P) hk hb;rw [<-h2];exact .tail ih (.out t ht hk h1)
theorem b5u {s:AS} (h:b0G P s):nrm k P s=s:=by
 refine AS.ext (fun t => ?_) rfl rfl;rw [a5a];by_cases ht:t<P.length
 ·exact b7y (a3r (fun j hj=>(h t ht).1 j hj))
 have:thr P t=[]:=by unfold thr;rw [List.getD_eq_getElem?_getD,List.getElem?_eq_none (by omega)];rfl
 unfold nrT;rw [this];rfl
theorem b7B {o:List Int}:Can k P o ↔ ∃ s,RSts k P (nrm k P AS.init) s/\b0G P s/\a8c P s=o:=by
 constructor
 ·rintro ⟨s,h1,h2,h3⟩;exact ⟨s,by rw [<-b5u (k:=k) h2];exact h1.rsts,h2,h3⟩
 rintro ⟨s,h1,h2,h3⟩;exact ⟨s,(a3s _).trans h1.stps,h2,h3⟩
theorem a5Q {s:AS} (h1 : ∀ t i,t<P.length->i<(thr P t).length -> ¬ a2G k (thr P t) (s.t t) i) (h2 : ∀ t,t<P.length->s.bf t=[]):b0G P s:=by
 intro t ht;refine ⟨fun i hi => ?_,h2 t ht⟩;have key : ∀ n,n<=(thr P t).length -> ∀ j,j<n->s.dn t j=true:=by
  intro n
  induction n with
  | zero=>intro _ j hj;omega
  | succ n ih =>
    intro hn j hj;rcases Nat.lt_or_eq_of_le (Nat.le_of_lt_succ hj) with h | h
    ·exact ih (by omega) j h
    subst h;cases hd:s.dn t j with
    | true=>rfl
    | false=>exact absurd ⟨hd,fun q hq _=>ih (by omega) q hq,fun _ _=>h2 t ht⟩ (h1 t j ht (by omega))
 exact key _ (Nat.le_refl _) i hi
theorem b3x {s:AS} (h:b0G P s) {t i:Nat} (ht:t<P.length) (hi:i<(thr P t).length) : ¬ a2G k (thr P t) (s.t t) i:=by
 intro hm;have:(s.t t).1 i=true:=(h t ht).1 i hi;rw [hm.1] at this;cases this
end
end Go.Am
