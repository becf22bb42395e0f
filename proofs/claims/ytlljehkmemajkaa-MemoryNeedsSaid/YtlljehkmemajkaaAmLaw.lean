import Derived.Test.YtlljehkmemajkaaAmSrt
set_option linter.unusedSimpArgs false
namespace Go.Am
open Go
def enc {τ:Type} (c:Cod τ) (l:List τ):List D:=l.map c.en
section
variable {τ α:Type} {c:Cod τ} {l m:List τ}
@[simp] theorem c1Y:enc c []=[]:=rfl
@[simp] theorem c1c (a:τ):enc c (a::l)=c.en a::enc c l:=rfl
theorem b1K:enc c (l++m)=enc c l++enc c m:=by simp [enc]
@[simp] theorem b8L:(enc c l).length=l.length:=by simp [enc]
theorem a7y (i:Nat):(enc c l)[i]?=l[i]?.map c.en:=by simp [enc]
theorem a0R {i:Nat} {a:τ} (h:l[i]?=some a):gt Ar.std c (enc c l) (i:Int)=some a:=by simp [gt,a7y,h,c.ko]
theorem b7t {i:Int} {a:τ} (h0:0<=i) (h:l[i.toNat]?=some a):gt Ar.std c (enc c l) i=some a:=by simp [gt,h0,a7y,h,c.ko]
theorem a8V {i:Nat} {a:τ} (h:l[i]?=some a):gc Ar.std c (enc c l) i=some a:=by simp [gc,a7y,h,c.ko]
theorem a4y {g:α->τ} {l:List α} {i:Nat} {a:α} (h:l[i]?=some a):gt Ar.std c (enc c (l.map g)) (i:Int)=some (g a):=a0R (by simp [h])
theorem a9M {g:α->τ} {l:List α} {i:Int} {a:α} (h0:0<=i) (h:l[i.toNat]?=some a):gt Ar.std c (enc c (l.map g)) i=some (g a):=b7t h0 (by simp [h])
@[simp] theorem a0W:Ar.std.len (enc c l)=(l.length:Int):=by simp
theorem b9C {lo hi:Int} (h0:0<=lo) (h1:lo<=hi) (h2:hi<=l.length):sl Ar.std (enc c l) lo hi=some (enc c ((l.drop lo.toNat).take (hi.toNat-lo.toNat))):=b6j _ _ _ _ h0 h1 h2
theorem a7z {i:Nat} (h:i<=l.length):sl Ar.std (enc c l) 0 (i:Int)=some (enc c (l.take i)):=b7s _ _ _ h
theorem a5N {a:τ} {d:D} (hd:c.en a=d) (h:l.length<4294967295):ap Ar.std (enc c l) [d]=some (enc c (l++[a])):=by
 subst hd;have:[c.en a]=[a].map c.en:=rfl;rw [this];exact a8T _ l [a] (by simp;omega)
theorem b3s (h:(l.length:Int)+m.length<4294967296):ap Ar.std (enc c l) (enc c m)=some (enc c (l++m)):=a8T _ l m h
theorem a7A (h:l.length<4294967296):ap Ar.std [] (enc c l)=some (enc c l):=by
 have:=b3s (c:=c) (l:=[]) (m:=l) (by simp;omega);simpa using this
end
section
variable {S X α:Type}
theorem a7B {step:Int->Option (Int⊕X)} (n:Nat) (p:Nat->Bool) (x y:X)
  (hs : ∀ i,i<n->step (i:Int)=some (bif p i then .inr x else .inl ((i+1:Nat):Int))) (he:step (n:Int)=some (.inr y)):iter step 0=some (bif (List.range n).any p then x else y):=by
 have key : ∀ k i,i+k=n->iter step (i:Int)=some (bif ((List.range' i k).any p) then x else y):=by
  intro k
  induction k with
  | zero=>intro i hi;obtain rfl:i=n:=by omega
          simpa using a0E he
  | succ k ih =>
    intro i hi;have h:=hs i (by omega);rw [List.range'_succ,List.any_cons];cases hp:p i with
    | true=>rw [hp] at h;simpa using a0E h
    | false=>rw [hp] at h;rw [a1d h,ih (i+1) (by omega)];rfl
 have:=key n 0 (by omega);rw [List.range_eq_range'];simpa using this
theorem b3t {l:List α} {q:α->Bool} {p:Nat->Bool} (h : ∀ i a,l[i]?=some a->p i=q a):(List.range l.length).any p=l.any q:=by
 rw [Bool.eq_iff_iff];simp only [List.any_eq_true,List.mem_range];constructor
 ·rintro ⟨i,hi,hp⟩;exact ⟨l[i],zp6 hi,by rw [<-h i _ (zp1 hi)];exact hp⟩
 rintro ⟨a,ha,hq⟩;obtain ⟨i,hi,rfl⟩:=List.getElem_of_mem ha;exact ⟨i,hi,by rw [h i _ (zp1 hi)];exact hq⟩
theorem a5g {step:Int->Option (Int⊕X)} (l:List α) (p:α->Bool) (x y:X)
  (hs : ∀ i a,l[i]?=some a->i<l.length->step (i:Int)=some (bif p a then .inr x else .inl ((i+1:Nat):Int))) (he:step (l.length:Int)=some (.inr y)):iter step 0=some (bif l.any p then x else y):=by
 have:=a7B (step:=step) l.length (fun i=>(l[i]?.map p).getD false) x y (fun i hi=>by
  have h:=zp1 hi;rw [h];exact hs i _ h hi) he
 rw [this,b3t (q:=p) (fun i a h=>by rw [h];rfl)]
theorem a8W {step:Int->Option (Int⊕X)} (l:List α) (p:α->Bool) (f:Nat->X) (y:X)
  (hs : ∀ i a,l[i]?=some a->i<l.length->step (i:Int)=some (bif p a then .inr (f i) else .inl ((i+1:Nat):Int))) (he:step (l.length:Int)=some (.inr y)):iter step 0=some ((l.findIdx? p).elim y f):=by
 have key : ∀ k i,i+k=l.length->iter step (i:Int)=some (((l.drop i).findIdx? p).elim y (fun j=>f (i+j))):=by
  intro k
  induction k with
  | zero=>intro i hi;obtain rfl:i=l.length:=by omega
          simpa using a0E he
  | succ k ih =>
    intro i hi;have hlt:i<l.length:=by omega
    have h:=hs i _ (zp1 hlt) hlt;rw [List.drop_eq_getElem_cons hlt,List.findIdx?_cons];cases hp:p l[i] with
    | true=>rw [hp] at h;simpa using a0E h
    | false =>
      rw [hp] at h;rw [a1d h,ih (i+1) (by omega)];cases hd:(l.drop (i+1)).findIdx? p with
      | none=>simp
      | some j=>simp;congr 1;omega
 have:=key l.length 0 (by omega);simpa using this
theorem b3u {T:Type} {step:T->Option (T⊕X)} (l:List α) (st:S->Nat->T) (f:S->α->S) (fin:S->X)
  (hs : ∀ i a s,l[i]?=some a->i<l.length->step (st s i)=some (.inl (st (f s a) (i+1)))) (he : ∀ s,step (st s l.length)=some (.inr (fin s))) (s0:S):iter step (st s0 0)=some (fin (l.foldl f s0)):=by
 rw [b1J l st (fun s a => .inl (f s a)) fin (fun i a s ha hi=>hs i a s ha hi) he s0,a8U]
end
theorem a2F {S T X:Type} {step:T->Option (T⊕X)} (n:Nat) (st:S->Nat->T) (R:Nat->S->Prop) (E:Nat->X->Prop) (fin:S->X)
  (hs : ∀ i s,i<n->R i s->(∃ s',R (i+1) s'/\step (st s i)=some (.inl (st s' (i+1)))) \/ ∃ x,E i x/\step (st s i)=some (.inr x))
  (he : ∀ s,R n s->step (st s n)=some (.inr (fin s))) (s0:S) (h0:R 0 s0):(∃ s,R n s/\iter step (st s0 0)=some (fin s)) \/ ∃ i x,i<n/\E i x/\iter step (st s0 0)=some x:=by
 have key : ∀ k i s,i+k=n->R i s->(∃ s',R n s'/\iter step (st s i)=some (fin s')) \/ ∃ j x,j<n/\E j x/\iter step (st s i)=some x:=by
  intro k
  induction k with
  | zero=>intro i s hi hR;obtain rfl:i=n:=by omega
          exact .inl ⟨s,hR,a0E (he s hR)⟩
  | succ k ih =>
    intro i s hi hR;rcases hs i s (by omega) hR with ⟨s',h1,h2⟩ | ⟨x,h1,h2⟩
    ·rw [a1d h2];exact ih (i+1) s' (by omega) h1
    exact .inr ⟨i,x,by omega,h1,a0E h2⟩
 exact key n 0 s0 (by omega) h0
theorem a0M {S T X:Type} {step:T->Option (T⊕X)} (n:Nat) (st:S->Nat->T) (R:Nat->S->Prop) (fin:S->X)
  (hs : ∀ i s,i<n->R i s -> ∃ s',R (i+1) s'/\step (st s i)=some (.inl (st s' (i+1))))
  (he : ∀ s,R n s->step (st s n)=some (.inr (fin s))) (s0:S) (h0:R 0 s0) : ∃ s,R n s/\iter step (st s0 0)=some (fin s):=by
 rcases a2F n st R (fun _ _=>False) fin (fun i s hi hR => .inl (hs i s hi hR)) he s0 h0 with h | ⟨_,_,_,h,_⟩
 ·exact h
 exact h.elim
theorem a4Q {α β:Type} {l:List α} {f g:α->List β} (h : ∀ a∈l,f a=g a):l.flatMap f=l.flatMap g:=by
 induction l with
 | nil=>rfl
 | cons a l ih=>simp only [List.flatMap_cons,h a (by simp),ih (fun b hb=>h b (by simp [hb]))]
theorem b7u {τ:Type} {c:Cod τ} (l:List τ) (i:Nat) (a:τ):(enc c l).set i (c.en a)=enc c (l.set i a):=by
 simp [enc,List.map_set]
theorem a0n {α:Type} {l:List α} {i:Nat} {a:α} (h:l[i]?=some a):l.take (i+1)=l.take i++[a]:=by
 rw [List.take_add_one,h];rfl
theorem a4a {α S T X:Type} {step:T->Option (T⊕X)} (l:List α) (F:List α->S) (st:S->Nat->T) (fin:S->X)
  (hs : ∀ i a,l[i]?=some a->i<l.length->step (st (F (l.take i)) i)=some (.inl (st (F (l.take i++[a])) (i+1)))) (he:step (st (F l) l.length)=some (.inr (fin (F l)))) :
  iter step (st (F []) 0)=some (fin (F l)):=by
 obtain ⟨s,rfl,e⟩:=a0M l.length st (fun i s=>s=F (l.take i)) fin (fun i s hi hR=>by
  subst hR;have ha:=zp1 hi;exact ⟨_,by rw [a0n ha],hs i _ ha hi⟩) (fun s hR=>by subst hR;rw [List.take_length];exact he) (F []) rfl
 rw [List.take_length] at e;exact e
theorem a1Y {i n:Nat} (h:i<n) (hn:n<9223372036854775808):IntKind.i64.wrap ((i:Int)+1)=((i+1:Nat):Int):=c1X h hn
theorem b5s {α:Type} (l:List α) (p:α->Bool):(0<=((l.findIdx? p).elim (-1:Int) (fun i=>(i:Int))))↔l.any p=true:=by
 cases h:l.findIdx? p with
 | none =>
   rw [List.findIdx?_eq_none_iff] at h;simp;intro x hx;simpa using h x hx
 | some i =>
   simp;obtain ⟨hi,hp,_⟩:=List.findIdx?_eq_some_iff_getElem.1 h;exact ⟨_,zp6 hi,by simpa using hp⟩
theorem a8X {α:Type} (l:List α) (p:α->Bool):Sum.elim (fun _:Unit=>some (-1:Int)) (fun v:Int=>some v) ((l.findIdx? p).elim (.inl ()) (fun i => .inr (i:Int)))=some ((l.findIdx? p).elim (-1) (fun i=>(i:Int))):=by
 cases l.findIdx? p <;> rfl
theorem b7v {α:Type} (l:List α) (p:α->Bool):decide (0<=((l.findIdx? p).elim (-1:Int) (fun i=>(i:Int))))=l.any p:=by
 rw [Bool.eq_iff_iff,decide_eq_true_iff];exact b5s l p
theorem b0E {α:Type} (l:List α) (p:α->Bool):(l.any fun a => !p a) = !l.all p:=by
 induction l with
 | nil=>rfl
 | cons a l ih=>simp [ih]
@[simp] theorem c1d (c:Bool):(bif c then true else false)=c:=by cases c <;> rfl
@[simp] theorem c1e (c:Bool):(bif c then false else true) = !c:=by cases c <;> rfl
@[simp] theorem c1Z (a b:Bool):(bif a then b else false)=(a&&b):=by cases a <;> rfl
@[simp] theorem c2x (a b:Bool):(bif a then true else b)=(a||b):=by cases a <;> rfl
@[simp] theorem c1f (a b:Bool):(bif a then false else b)=(!a&&b):=by cases a <;> rfl
@[simp] theorem c1g (a b:Bool):(bif a then b else true)=(!a||b):=by cases a <;> rfl
@[simp] theorem b9D {α β γ:Type} (c:Bool) (a:α) (b:β) (f:α->γ) (g:β->γ):Sum.elim f g (bif c then .inl a else .inr b)=bif c then f a else g b:=by cases c <;> rfl
@[simp] theorem b9E {α β γ:Type} (c:Bool) (a:α) (b:β) (f:α->γ) (g:β->γ):Sum.elim f g (bif c then .inr b else .inl a)=bif c then g b else f a:=by cases c <;> rfl
end Go.Am
