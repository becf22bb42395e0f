/- Own text: AmLaw. -/
import Derived.Test.YtkjeamngjnfpkaaAmLoop
import Derived.CallsIn
import Derived.Lib.BitFns
set_option linter.unusedSimpArgs false
set_option linter.unusedSectionVars false
namespace Go.Am
open Go
theorem bindS {α β:Type} {o:Option α} {f:α->Option β} {r:β} (h:o.bind f=some r) : ∃ v,o=some v/\f v=some r:=by
 cases o with
 | none=>cases h
 | some v=>exact ⟨v,rfl,h⟩
theorem cT {α:Type} {c:Bool} {x y r:α} (e:c=true) (h:cond c x y=r):x=r:=by subst e;exact h
theorem cF {α:Type} {c:Bool} {x y r:α} (e:c=false) (h:cond c x y=r):y=r:=by subst e;exact h
theorem eL {α β γ:Type} {f:α->γ} {g:β->γ} {v:α} {r:γ} (h:Sum.elim f g (.inl v)=r):f v=r:=h
theorem eR {α β γ:Type} {f:α->γ} {g:β->γ} {v:β} {r:γ} (h:Sum.elim f g (.inr v)=r):g v=r:=h
theorem soI {α:Type} {x y:α} (h:some x=some y):x=y:=Option.some.inj h
structure Cod (τ:Type) where
 un:D->Option τ
 en:τ->D
 ok : ∀ x v,un x=some v->x=en v
 ko : ∀ v,un (en v)=some v
def cI (k:IntKind):Cod Int where
 un | .int k' n=>if k'=k then some n else none
    | _=>none
 en n := .int k n
 ok x v h:=by
  cases x <;> simp at h
  obtain ⟨rfl,rfl⟩:=h;rfl
 ko v:=by simp
def cB:Cod Bool where
 un | .bool b=>some b
    | _=>none
 en b := .bool b
 ok x v h:=by cases x <;> simp at h;subst h;rfl
 ko v:=rfl
def cS:Cod ByteArray where
 un | .str b=>some b
    | _=>none
 en b := .str b
 ok x v h:=by cases x <;> simp at h;subst h;rfl
 ko v:=rfl
def cL (k:Nat):Cod (List D) where
 un | .list k' l=>if k'=k then some l else none
    | _=>none
 en l := .list k l
 ok x v h:=by
  cases x <;> simp at h
  obtain ⟨rfl,rfl⟩:=h;rfl
 ko v:=by simp
structure CodL (τ:Type) where
 un:List D->Option τ
 en:τ->List D
 ok : ∀ x v,un x=some v->x=en v
 ko : ∀ v,un (en v)=some v
def l1 {τ:Type} (c:Cod τ):CodL τ where
 un | [x]=>c.un x
    | _=>none
 en v:=[c.en v]
 ok x v h:=by
  match x,h with
  | [y],h=>rw [c.ok y v h]
 ko v:=c.ko v
def lc {τ ρ:Type} (c:Cod τ) (d:CodL ρ):CodL (τ×ρ) where
 un | x::r=>(c.un x).bind fun a=>(d.un r).map fun b=>(a,b)
    | []=>none
 en v:=c.en v.1::d.en v.2
 ok x v h:=by
  match x,h with
  | y::r,h =>
    obtain ⟨a,h1,h⟩:=bindS h
    simp only [Option.map_eq_some_iff] at h
    obtain ⟨b,h2,rfl⟩:=h
    rw [c.ok y a h1,d.ok r b h2]
 ko v:=by simp [c.ko,d.ko]
def cG {τ:Type} (d:CodL τ):Cod τ where
 un | .agg l=>d.un l
    | _=>none
 en v := .agg (d.en v)
 ok x v h:=by
  cases x <;> simp at h
  rw [d.ok _ v h]
 ko v:=d.ko v
def cA:Cod (List D) where
 un | .agg l=>some l
    | _=>none
 en l := .agg l
 ok x v h:=by
  cases x <;> simp at h
  subst h;rfl
 ko v:=rfl
theorem onN {A:Ar} (hA:A=Ar.std) {l:List D} (h:A.ones l=true):l.all D.isOne=true:=by subst hA;exact h
def ga (A:Ar) (l:List D) (p n:Int):Option (List D):=bif A.zle (A.zadd p n) (A.len l) then bif A.ones (A.sub l p (A.zadd p n)) then some (A.sub l p (A.zadd p n)) else none else none
def gc {τ:Type} (A:Ar) (c:Cod τ) (l:List D) (i:Nat):Option τ:=(A.lget l i).bind c.un
theorem gcI {τ:Type} {A:Ar} {c:Cod τ} {l:List D} {i:Nat} {v:τ} (h:gc A c l i=some v):A.lget l i=some (c.en v):=by
 obtain ⟨x,h1,h2⟩:=bindS h
 rw [h1,c.ok x v h2]
@[irreducible] def fuel:Nat:=1000000
theorem tf (b:Bool):b=true\/b=false:=by cases b <;> simp
theorem lb {a b:Nat} (h:Nat.ble a b=true):a<=b:=Nat.le_of_ble_eq_true h
theorem bindK {α ρ:Type} {o:Option α} {f:α->Option ρ} {r:ρ} (h:o.bind f=some r) : ∃ x,o=some x /\ ∃ K:α->Option ρ,(∀ y,K y=some r->f y=some r)/\K x=some r:=by
 obtain ⟨x,h1,h2⟩:=bindS h
 exact ⟨x,h1,f,fun _ h=>h,h2⟩
open Classical in
noncomputable def both {ρ:Type} (a b:Option ρ):Option ρ:=a.bind fun x=>b.bind fun y=>if x=y then some x else none
theorem bothI {ρ:Type} {a b:Option ρ} {r:ρ} (h:both a b=some r):a=some r/\b=some r:=by
 obtain ⟨x,h1,h⟩:=bindS h
 obtain ⟨y,h2,h⟩:=bindS h
 split at h
 ·rename_i e;subst e;rw [soI h] at h1 h2;exact ⟨h1,h2⟩
 ·cases h
theorem both_self {ρ:Type} (x:ρ):both (some x) (some x)=some x:=by simp [both]
theorem ixF {A:Ar} (hA:A=Ar.std) {n j:Nat} {i:Int} (h:A.zeq i j=true) (hj:j<n):A.zle 0 i=true/\A.zlt i (Int.ofNat n)=true/\A.nat i=j:=by
 subst hA
 have:i=j:=by simpa [Ar.std] using h
 subst this
 refine ⟨?_,?_,?_⟩ <;> simp [Ar.std] <;> omega
def gt {τ:Type} (A:Ar) (c:Cod τ) (l:List D) (i:Int):Option τ:=bif A.zle 0 i then (A.lget l (A.nat i)).bind c.un else none
theorem gtI {τ:Type} {A:Ar} {c:Cod τ} {l:List D} {i:Int} {v:τ} (h:gt A c l i=some v):A.zle 0 i=true/\A.lget l (A.nat i)=some (c.en v):=by
 unfold gt at h
 cases h0:A.zle 0 i with
 | false=>rw [h0] at h;cases h
 | true =>
   rw [h0] at h
   obtain ⟨x,h1,h2⟩:=bindS (cT rfl h)
   exact ⟨rfl,by rw [h1,c.ok x v h2]⟩
def sl (A:Ar) (l:List D) (lo hi:Int):Option (List D):=bif A.zle 0 lo then bif A.zle lo hi then bif A.zle hi (A.len l) then some (A.sub l lo hi) else none else none else none
theorem slI {A:Ar} {l y:List D} {lo hi:Int} (h:sl A l lo hi=some y):A.zle 0 lo=true/\A.zle lo hi=true/\A.zle hi (A.len l)=true/\A.sub l lo hi=y:=by
 unfold sl at h
 cases h0:A.zle 0 lo <;> cases h1:A.zle lo hi <;> cases h2:A.zle hi (A.len l) <;> simp [h0,h1,h2] at h
 exact ⟨rfl,rfl,rfl,h⟩
def ap (A:Ar) (l m:List D):Option (List D):=bif A.fits (A.zadd (A.len l) (A.len m)) then some (A.app l m) else none
theorem apI {A:Ar} {l m y:List D} (h:ap A l m=some y):A.fits (A.zadd (A.len l) (A.len m))=true/\A.app l m=y:=by
 unfold ap at h
 cases h0:A.fits (A.zadd (A.len l) (A.len m)) <;> simp [h0] at h
 exact ⟨rfl,h⟩
def ck (b:Bool):Option Unit:=bif b then some () else none
theorem ckI {b:Bool} {u:Unit} (h:ck b=some u):b=true:=by cases b <;> first | rfl | cases h
def nk (b:Bool):Option Unit:=bif b then none else some ()
theorem nkI {b:Bool} {u:Unit} (h:nk b=some u):b=false:=by cases b <;> first | rfl | cases h
def fz (A:Ar) (l:List D) (lo n:Int):Option (List D):=bif A.zle (A.zadd lo n) (A.len l) then some (A.sub l lo (A.zadd lo n)) else none
theorem fzI {A:Ar} (hA:A=Ar.std) {l l':List D} {lo n:Int} (h:fz A l lo n=some l'):lo+n<=l.length/\Ar.std.sub l lo (lo+n)=l':=by
 subst hA
 unfold fz at h
 cases h0:Ar.std.zle (Ar.std.zadd lo n) (Ar.std.len l) <;> simp [h0] at h
 refine ⟨by simpa [Ar.std] using h0,h⟩
theorem neL {A:Ar} (hA:A=Ar.std) {l:List D} (h:A.zlt 0 (A.len l)=true):l≠[]:=by
 subst hA;rintro rfl;simp [Ar.std] at h
theorem lenL {A:Ar} (hA:A=Ar.std) {l:List D}:(l.length:Int)=A.len l:=by subst hA;rfl
def AV.soft:AV->AV
 | .own k l => .d (.list k l)
 | .lim k l => .d (.list k l)
 | .tail k l => .d (.list k l)
 | v=>v
def AV.loose:AV->AV
 | .own k l => .tail k l
 | v=>v
def softE (sf:List Nat):List (Nat×AV)->List (Nat×AV)
 | []=>[]
 | (t,v)::r=>(t,if sf.contains t then v.soft else if sf.contains (t+1000000) then v.loose else v)::softE sf r
theorem eget_softE (sf:List Nat) : ∀ (e:List (Nat×AV)) (t:Nat),eget (softE sf e) t=if sf.contains t then (eget e t).soft else if sf.contains (t+1000000) then (eget e t).loose else eget e t
 | [],t=>by simp only [softE,eget];split <;> (try split) <;> rfl
 | (s,v)::r,t=>by
   simp only [softE,eget]
   by_cases h:s=t
   ·subst h;simp
   ·simp only [if_neg h];exact eget_softE sf r t
theorem Rel.soft {G:Gh} {σ:St} {a:Act} {w:World} (R:Rel G σ a w) (sf:List Nat):Rel G { σ with env:=softE sf σ.env } a w:=by
 refine ⟨R.h,R.size,fun t => ?_,fun t r off ht => ?_,R.df⟩
 ·have:=R.slots t
  simp only [St.get,eget_softE] at this ⊢
  split
  ·generalize eget σ.env t=c at this
   cases c <;> first | exact this | skip
   ·cases this with | own _ _ _ _ h _=>exact .d _ _ _ h
   ·cases this with | lim _ _ _ _ h _=>exact .d _ _ _ h
   ·cases this with | tail _ _ _ _ h _=>exact .d _ _ _ h
  ·split
   ·generalize eget σ.env t=c at this
    cases c <;> first | exact this | skip
    exact (ownZ_rep (z:=false)).2 ((ownZ_rep (z:=true)).1 this |>.imp id TailZ.weak)
   ·exact this
 ·simp only [St.get,eget_softE] at ht ⊢
  have h1:eget σ.env t = .place r off:=by
   split at ht
   ·generalize eget σ.env t=c at ht
    cases c <;> first | exact ht | (simp [AV.soft] at ht)
   ·split at ht
    ·generalize eget σ.env t=c at ht
     cases c <;> first | exact ht | (simp [AV.loose] at ht)
    ·exact ht
  obtain ⟨cs,h2⟩:=R.places t r off h1
  simp only [St.get] at h2
  rw [h2]
  exact ⟨cs,by split <;> (try split) <;> rfl⟩
def St.fitS (σ:St) (ts sf:List Nat) (k:Nat):St:={ σ with env:=softE sf (keepE σ.env ts),heap:=σ.heap.take k }
theorem Rel.fitS {G:Gh} {σ:St} {a:Act} {w:World} (R:Rel G σ a w) {ts:List Nat} (sf:List Nat) {k:Nat} (h:σ.fits ts k=true):Rel { G with nh:=k } (σ.fitS ts sf k) a w :=
 (R.fit h).soft sf
def AExit.onN (ts sf:List Nat) (k:Nat) (R:St->Prop) (Q:Exit->St->Prop):Exit->St->Prop
 | .normal,σ=>σ.fits ts k=true/\R (σ.fitS ts sf k)
 | e,σ=>Q e σ
def AExit.onX (j:Nat) (ts sf:List Nat) (k:Nat) (R:St->Prop) (Q:Exit->St->Prop):Exit->St->Prop
 | .exit i,σ=>if i=j then σ.fits ts k=true/\R (σ.fitS ts sf k) else Q (.exit i) σ
 | e,σ=>Q e σ
section
variable {P:Program} {m:Nat} {Q:Exit->St->Prop} {σ:St} {c:Code} {R:St->Prop} {ts sf:List Nat} {k:Nat}
theorem AWp.fitR (ts sf:List Nat) (k:Nat) (hm:m<=k) (hf:σ.fits ts k=true) (h:AWp P m c Q (σ.fitS ts sf k)):AWp P m c Q σ:=by
 intro r n G a w hm' R
 refine wpIn_mono (h r n _ a w hm (R.fitS sf hf)) ?_
 rintro e a' w' ⟨σ',G',R',hE,hm'',hQ⟩
 exact ⟨σ',G',R',⟨hE.K,hE.new,hE.others,hE.size,hE.β,hE.io⟩,hm'',hQ⟩
theorem AWp.cutN (ts sf:List Nat) (k:Nat) (hm:m<=k) (R:St->Prop) (h:AWp P m c (AExit.onN ts sf k R Q) σ) (h2 : ∀ τ,R τ->Q .normal τ):AWp P m c Q σ:=by
 intro r n G a w hm' R0
 refine wpIn_mono (h r n G a w hm' R0) ?_
 rintro e a' w' ⟨σ',G',R',hE,hm'',hQ⟩
 cases e with
 | normal=>exact ⟨_,_,R'.fitS sf hQ.1,hE.nh k,hm,h2 _ hQ.2⟩
 | _=>exact ⟨σ',G',R',hE,hm'',hQ⟩
theorem AWp.cutX (j:Nat) (ts sf:List Nat) (k:Nat) (hm:m<=k) (R:St->Prop) (h:AWp P m c (AExit.onX j ts sf k R Q) σ) (h2 : ∀ τ,R τ->Q (.exit j) τ):AWp P m c Q σ:=by
 intro r n G a w hm' R0
 refine wpIn_mono (h r n G a w hm' R0) ?_
 rintro e a' w' ⟨σ',G',R',hE,hm'',hQ⟩
 cases e with
 | exit i =>
   simp only [AExit.onX] at hQ
   split at hQ
   ·rename_i hi;subst hi;exact ⟨_,_,R'.fitS sf hQ.1,hE.nh k,hm,h2 _ hQ.2⟩
   ·exact ⟨σ',G',R',hE,hm'',hQ⟩
 | _=>exact ⟨σ',G',R',hE,hm'',hQ⟩
theorem oNi (h:σ.fits ts k=true/\R (σ.fitS ts sf k)):AExit.onN ts sf k R Q .normal σ:=h
theorem oxI {j:Nat} (h:σ.fits ts k=true/\R (σ.fitS ts sf k)):AExit.onX j ts sf k R Q (.exit j) σ:=by simp only [AExit.onX,if_true];exact h
theorem oxR {j:Nat} (h:Q .ret σ):AExit.onX j ts sf k R Q .ret σ:=h
end
section
variable {S X:Type}
def itN (step:S->Option (S⊕X)):Nat->S->Option X
 | 0,_=>none
 | n+1,s=>(step s).bind (Sum.elim (fun s'=>itN step n s') some)
theorem itN_up {step:S->Option (S⊕X)} : ∀ {n m:Nat} {s:S} {x:X},n<=m->itN step n s=some x->itN step m s=some x
 | 0,_,_,_,_,h=>by cases h
 | n+1,0,_,_,hn,_=>by omega
 | n+1,m+1,s,x,hn,h=>by
   simp only [itN] at h ⊢
   obtain ⟨e,he,h⟩:=bindS h
   rw [he]
   cases e with
   | inl s'=>exact itN_up (n:=n) (by omega) (eL h)
   | inr y=>exact h
open Classical in
noncomputable def iter (step:S->Option (S⊕X)) (s:S):Option X:=if h : ∃ n x,itN step n s=some x then itN step h.choose s else none
theorem iter_of {step:S->Option (S⊕X)} {n:Nat} {s:S} {x:X} (h:itN step n s=some x):iter step s=some x:=by
 have hex : ∃ n x,itN step n s=some x:=⟨n,x,h⟩
 unfold iter
 rw [dif_pos hex]
 obtain ⟨y,hy⟩:=hex.choose_spec
 rw [hy]
 have h1:=itN_up (Nat.le_max_left n hex.choose) h
 have h2:=itN_up (Nat.le_max_right n hex.choose) hy
 rw [h1] at h2
 exact h2.symm
theorem iter_ex {step:S->Option (S⊕X)} {s:S} {x:X} (h:iter step s=some x) : ∃ n,itN step n s=some x:=by
 unfold iter at h
 split at h
 ·exact ⟨_,h⟩
 ·cases h
theorem iter_inl {step:S->Option (S⊕X)} {s s':S} (h:step s=some (.inl s')):iter step s=iter step s':=by
 have key : ∀ x,iter step s=some x↔iter step s'=some x:=by
  intro x
  constructor
  ·intro hx
   obtain ⟨n,hn⟩:=iter_ex hx
   cases n with
   | zero=>cases hn
   | succ n=>simp only [itN,h,Option.bind_some,Sum.elim_inl] at hn;exact iter_of hn
  ·intro hx
   obtain ⟨n,hn⟩:=iter_ex hx
   exact iter_of (n:=n+1) (by simp only [itN,h,Option.bind_some,Sum.elim_inl];exact hn)
 cases e:iter step s with
 | some x=>exact ((key x).1 e).symm
 | none =>
   cases e':iter step s' with
   | none=>rfl
   | some x=>rw [(key x).2 e'] at e;cases e
theorem iter_inr {step:S->Option (S⊕X)} {s:S} {x:X} (h:step s=some (.inr x)):iter step s=some x :=
 iter_of (n:=1) (by simp only [itN,h,Option.bind_some,Sum.elim_inr])
theorem exL {e:S⊕X} {x x':X} {p:Prop} (he:some (Sum.inr x')=some e) (hq:x'=x->p) : ∃ x'',e = .inr x''/\(x''=x->p):=⟨x',(soI he).symm,hq⟩
variable {P:Program} {m:Nat} {Q:Exit->St->Prop} {σ:St} {c:Code}
theorem AWp.iter {step:S->Option (S⊕X)} {s0:S} {x:X} (hx:iter step s0=some x) (ts sf:List Nat) (k:Nat) (hm:m<=k) (F:S->St) (hf:σ.fits ts k=true/\σ.fitS ts sf k=F s0)
  (h : ∀ s e,step s=some e->AWp P m c (AExit.then (fun σ' => ∃ s',e = .inl s'/\σ'.fits ts k=true/\σ'.fitS ts sf k=F s') (fun ex σ' => ∃ x',e = .inr x'/\(x'=x->Q ex σ'))) (F s)):AWp P m (.loop c) Q σ:=by
 obtain ⟨n,hn⟩:=iter_ex hx
 refine AWp.fitR ts sf k hm hf.1 ?_
 rw [hf.2]
 refine AWp.loop (ι:={ i:S×Nat // itN step i.2 i.1=some x }) (fun i=>i.1.2) (fun i=>F i.1.1) ⟨(s0,n),hn⟩ ?_
 rintro ⟨⟨s,n⟩,hi⟩
 cases n with
 | zero=>cases hi
 | succ n =>
   simp only [itN] at hi
   obtain ⟨e,he,hi⟩:=bindS hi
   intro r n' G a w hm' R
   refine wpIn_mono (h s e he r n' G a w hm' R) ?_
   rintro ex a' w' ⟨σ',G',R',hE,hm'',hq⟩
   cases ex with
   | normal =>
     obtain ⟨s',rfl,h1,h2⟩:=hq
     exact ⟨_,_,R'.fitS sf h1,hE.nh k,hm,⟨(s',n),hi⟩,Nat.lt_succ_self _,h2⟩
   | _=>obtain ⟨x',rfl,h1⟩:=hq;exact ⟨σ',G',R',hE,hm'',h1 (soI hi)⟩
end
section
variable {P:Program} {T:Types} {m:Nat} {Q:Exit->St->Prop} {K:St->Prop} {σ σ':St} {ops:Array Oper} {id:Nat} {c:Code} {A:Ar}
theorem nT (h:K σ):AExit.then K Q .normal σ:=h
theorem nB (h:Q .normal σ):AExit.block id Q .normal σ:=h
theorem xT {j:Nat} (h:Q (.exit j) σ):AExit.then K Q (.exit j) σ:=h
theorem xB (h:Q .normal σ):AExit.block id Q (.exit id) σ:=by simp only [AExit.block,if_true];exact h
theorem rT (h:Q .ret σ):AExit.then K Q .ret σ:=h
theorem rB (h:Q .ret σ):AExit.block id Q .ret σ:=h
theorem AWp.rg (hT:TOk P T) (hA:A=Ar.std) (an:Ann) (h:runP A T an ops.toList ops.toList σ = .done σ') (hm:m<=σ.heap.length) (k:Q .normal σ'):AWp P m (.region id ops false) Q σ :=
 AWp.reg1 an hT (fun A' hA'=>by subst hA';subst hA;exact h) hm k
theorem AWp.rd (hT:TOk P T) (hA:A=Ar.std) (an:Ann) (hmix:P.follows .mixedOrders=true) {xs:List Rec} (h:runD A T an ops.toList ops.toList σ [] = .done σ' xs) (hok:okOrder ops.toList (xs.map Rec.foot)=true) (hm:m<=σ.heap.length) (k:Q .normal σ'):AWp P m (.region id ops true) Q σ :=
 AWp.reg1D an hT hmix (fun A' hA'=>by subst hA';subst hA;exact h) hok hm k
variable {l rest:List Oper} {f:FuncId} {args:List AV} {o:Oper} {σ1:St} {H Hr H':List Obj} {r:AV} {d:Nat} {xs xs1:List Rec}
theorem AOps.cc (hT:TOk P T) (hA:A=Ar.std) (an:Ann) (h:runP A T an ops.toList l σ = .call f args o rest σ1)
  (hm:m<=σ.heap.length) (hc:ACall P f args H r H') (hH:σ1.heap=H++Hr) (hr:Hr=[]\/H'.length=H.length) (hin:objsInb H.length H=true) (hargs:inbL H.length args=true) (hd:o.dst=some d) (hlt:d<σ1.n) (hb:(σ1.get d).isBox=false)
  (hfr:args.all AV.free=true) (k:AOps P m ops rest Q { σ1 with env:=eset σ1.env d r,heap:=H'++Hr }):AOps P m ops l Q σ :=
 AOps.stepCall hT (an:=an) (fun A' hA'=>by subst hA';subst hA;exact h) hm hH hr hin hargs hd hlt hb hfr hc k
theorem AOps.cd (hT:TOk P T) (hA:A=Ar.std) (an:Ann) (h:runP A T an ops.toList l σ = .done σ') (hm:m<=σ.heap.length) (hq:Q .normal σ'):AOps P m ops l Q σ :=
 AOps.done hT (an:=an) (fun A' hA'=>by subst hA';subst hA;exact h) hm hq
theorem DOps.cl (hT:TOk P T) (hA:A=Ar.std) (an:Ann) (hl:l=ops.toList.drop xs.length) (h:runD A T an ops.toList l σ xs = .call f args o rest σ1 xs1)
  (hc:ACall P f args H r H') (hH:σ1.heap=H++Hr) (hr:H'.length=H.length) (hin:objsInb H.length H=true) (hargs:inbL H.length args=true) (hd:o.dst=some d) (hlt:d<σ1.n) (hb:(σ1.get d).isBox=false) (hfr:args.all AV.free=true)
  (k:DOps P m ops rest (xs1++[{ sets:=[(d,r)],heap:=none,rd:=operSlots ops.toList o,hr:=false,ho:=List.range H.length,low:=H' }]) K (σ1.upd [(d,r)] (some (H'++Hr)))):DOps P m ops l xs K σ :=
 DOps.stepCallL hT (an:=an) hl (fun A' hA'=>by subst hA';subst hA;exact h) hH hr hin hargs hd hlt hb hfr hc k
theorem DOps.c0 (hT:TOk P T) (hA:A=Ar.std) (an:Ann) (hl:l=ops.toList.drop xs.length) (h:runD A T an ops.toList l σ xs = .call f args o rest σ1 xs1)
  (hc:ACall P f args [] r []) (hargs:inbL 0 args=true) (hd:o.dst=some d) (hlt:d<σ1.n) (hb:(σ1.get d).isBox=false) (hfr:args.all AV.free=true)
  (k:DOps P m ops rest (xs1++[{ sets:=[(d,r)],heap:=none,rd:=operSlots ops.toList o,hr:=false,ho:=[],low:=[] }]) K (σ1.upd [(d,r)] none)):DOps P m ops l xs K σ :=
 DOps.stepCall hT (an:=an) hl (fun A' hA'=>by subst hA';subst hA;exact h) hargs hd hlt hb hfr hc k
theorem DOps.cd (hT:TOk P T) (hA:A=Ar.std) (an:Ann) {xs':List Rec} (hl:l=ops.toList.drop xs.length) (h:runD A T an ops.toList l σ xs = .done σ' xs') (hok:okOrder ops.toList (xs'.map Rec.foot)=true) (hq:K σ'):DOps P m ops l xs K σ :=
 DOps.done hT (an:=an) hl (fun A' hA'=>by subst hA';subst hA;exact h) hok hq
theorem AWp.cdT {t:Nat} {x y:Code} {b:Bool} (hc:σ.get t = .d (.bool b)) (hb:b=true) (h:AWp P m x Q σ):AWp P m (.cond (.tmp t) x y) Q σ:=by
 subst hb;exact AWp.cond (b:=true) hc h
theorem AWp.cdF {t:Nat} {x y:Code} {b:Bool} (hc:σ.get t = .d (.bool b)) (hb:b=false) (h:AWp P m y Q σ):AWp P m (.cond (.tmp t) x y) Q σ:=by
 subst hb;exact AWp.cond (b:=false) hc h
end
end Go.Am

set_option linter.unusedVariables false
namespace Go.Am
open Go
def refN {τ:Type} (n:Nat) (d:CodL τ) (hn : ∀ v,n<=(d.en v).length):CodL τ where
 un | .ref xs::r=>if xs.length=n then d.un (xs++r) else none
    | _=>none
 en v := .ref ((d.en v).take n)::(d.en v).drop n
 ok x v h:=by
  match x,h with
  | .ref xs::r,h =>
    simp only at h
    split at h
    ·rename_i hx
     have:=d.ok _ v h
     rw [<-this,<-hx,List.take_left,List.drop_left]
    ·cases h
 ko v:=by
  simp only
  rw [if_pos (by rw [List.length_take];exact Nat.min_eq_left (hn v)),List.take_append_drop,d.ko]
end Go.Am

namespace Go.Am
open Go
variable {P:Program} {T:Types} {A:Ar} {m:Nat} {ops:Array Oper} {σ σ1:St} {o:Oper} {i:Nat} {K:St->Prop} {l rest:List Oper} {xs xs1:List Rec}
end Go.Am

namespace Go.Am
open Go
variable {P:Program} {m:Nat} {Q:Exit->St->Prop} {σ:St} {c:Code}
theorem RelH.freezeP {G:Gh} {H:List Obj} {w:World} {c:Loc} (R:RelH G H w) {i k:Nat} {lo n:Int} {l:List D} {v:Value} (hrep:RepV G w c (.mref i k lo n) v) (hi:H[i]?=some (.arr k l)) (hfit:lo+n<=l.length) :
  ∃ G',RelH G' (H.set i .dead) w/\RepD G'.K (.list k (Ar.std.sub l lo (lo+n))) v/\(∀ m,Ext m G w G' w)/\Pres G G' w w (fun x=>x ≠ .o i)/\G'.β=G.β:=by
 cases hrep with | mref _ _ _ _ _ b off cap hnh hlo hn hcap hbo =>
 obtain ⟨vs,e,hO,hw,hu,hsz,h1,hh⟩:=R.objs i _ hi
 have hil:i<H.length:=(zp2.1 hi).1
 have hfl:=flat_length hu
 let B:=G.β (.o i)
 let G':Gh:={ G with K:=fun x=>if x.block=B/\x.spot=none/\x.off<(D.flat l).length then some (vs.getD x.off Go.undef) else G.K x,O:=fun x=>if x=B then none else G.O x }
 have hdisj:=R.disj _ _ _ hO
 have hKle:KLe G.K G'.K:=by
  intro x v h
  simp only [G']
  rw [if_neg];exact h
  rintro ⟨hb,hsp,_⟩
  obtain ⟨xb,xo,xs⟩:=x
  simp at hb hsp;subst hb hsp
  rw [hdisj.2 xo (Nat.zero_le _)] at h;cases h
 have hOold : ∀ b' x f',x ≠ .o i->G.O b'=some (x,f')->G'.O b'=some (x,f'):=by
  intro b' x f' hx h
  have:b'≠B:=by rintro rfl;rw [show G.O B=_ from hO] at h;simp at h;exact hx h.1.symm
  simp only [G'];rw [if_neg this];exact h
 have hpr:Pres G G' w w (fun x=>x ≠ .o i) :=
  ⟨hKle,fun b' x f' hx h=>⟨hOold b' x f' hx h,rfl⟩,fun _ _=>rfl,Nat.le_refl _⟩
 have hkept : ∀ x v,G'.K x=some v->w.cell? x=some v:=by
  intro x v h
  simp only [G'] at h
  split at h
  ·rename_i hc
   obtain ⟨xb,xo,xs⟩:=x
   obtain ⟨h1',h2',h3'⟩:=hc
   simp at h1' h2' h3' h
   subst h1' h2'
   rw [cell_at hw (by omega)]
   simpa using h
  ·exact R.kept x v h
 obtain ⟨LO,rfl⟩:=zp9 hlo
 obtain ⟨N,rfl⟩:=zp9 hn
 have hsubl:Ar.std.sub l LO (LO+N)=(l.drop LO).take N:=by
  simp only [Ar.std]
  congr 1
  all_goals omega
 have hlist':RepD G'.K (.list k ((l.drop LO).take N)) (.slice (some ⟨b,off,none⟩) N cap):=by
  by_cases hN:N=0
  ·subst hN
   simp only [List.take_zero]
   exact RepD.empty _ _ _ _ _
  ·obtain ⟨rfl,rfl⟩:=hbo (by omega)
   simp only [Int.toNat_natCast]
   have hus:=hu.sub LO N
   have hln:((l.drop LO).take N).length=N:=by simp;omega
   have hfe:D.flat ((l.drop LO).take N)=((D.flat l).drop (LO*k)).take (N*k):=by
    rw [flat_take (fun x hx=>hu x (List.mem_of_mem_drop hx)),flat_drop hu]
   have hflN:=flat_length hus
   have hmul:LO*k+N*k<=l.length*k:=by rw [<-Nat.add_mul];exact Nat.mul_le_mul_right _ (by omega)
   have hgetj : ∀ (j:Nat) (hj:j<(D.flat ((l.drop LO).take N)).length),(D.flat ((l.drop LO).take N))[j]=(D.flat l)[LO*k+j]'(by rw [hflN,hln] at hj;omega):=by
    intro j hj
    simp only [hfe,List.getElem_take,List.getElem_drop]
   have:=RepD.list (K:=G'.K) k ((l.drop LO).take N) (G.β (.o i)) (LO*k) cap (fun j=>vs.getD (LO*k+j) Go.undef) hus (by rw [hln];simpa using hcap)
    (fun j hj=>by
     rw [hflN,hln] at hj
     have hjj:LO*k+j<(D.flat l).length:=by omega
     simp [G',B,hjj])
    (fun j hj=>by rw [hflN,hln] at hj;exact h1 _ (by omega))
    (fun j hj=>by
     rw [hgetj j hj]
     rw [hflN,hln] at hj
     exact (hh _ (by omega)).mono hKle)
   rwa [hln] at this
 refine ⟨G',⟨⟨fun b' x f' h => ?_⟩,by simpa [G'] using R.nh,fun i' ob hob => ?_,hkept,fun b' x f' h => ?_⟩,by rw [hsubl];exact hlist',fun m=>⟨hKle,fun x v h => ?_,fun b' hb h=>⟨rfl,?_⟩,Nat.le_refl _,fun _ _=>rfl,rfl,rfl,fun _ _=>rfl,rfl,Nat.le_refl _⟩,hpr,rfl⟩
 ·simp only [G'] at h
  split at h
  ·cases h
  ·exact R.sane.no b' x f' h
 ·by_cases hii:i=i'
  ·subst hii
   simp [List.getElem?_set_self hil] at hob
   subst hob;trivial
  ·rw [List.getElem?_set_ne hii] at hob
   exact (R.objs i' ob hob).pres R.sane (by rw [<-R.nh];exact (zp2.1 hob).1) hpr (by simp;exact fun e=>hii e.symm) (by simp)
 ·simp only [G'] at h ⊢
  split at h
  ·cases h
  ·rename_i hne
   refine ⟨(R.disj b' x f' h).1,fun j hj => ?_⟩
   rw [if_neg (by intro hc;exact hne hc.1)]
   exact (R.disj b' x f' h).2 j hj
 ·simp only [G'] at h
  split at h
  ·rename_i hc;exact .inr (.inl ⟨_,by rw [hc.1];exact hO⟩)
  ·exact .inl h
 ·simp only [G'];split
  ·rfl
  ·exact h
end Go.Am

namespace Go.Am
open Go
mutual
def D.kf:D->Bool
 | .list _ []=>true
 | .list _ (_::_)=>false
 | .agg l=>kfD l
 | .iface _ x=>x.kf
 | .ref _=>false
 | _=>true
def kfD:List D->Bool
 | []=>true
 | x::r=>x.kf&&kfD r
end
theorem kfD_get : ∀ {l:List D},kfD l=true -> ∀ (i:Nat) (hi:i<l.length),l[i].kf=true
 | x::r,h,0,_=>by simp [kfD] at h;exact h.1
 | x::r,h,i+1,hi=>by simp [kfD] at h;exact kfD_get h.2 i (by simpa using hi)
mutual
def AV.kf:AV->Bool
 | .own .. | .lim .. | .tail .. | .lbox _ | .place .. | .iptr _ | .fresh .. => false
 | .d x=>x.kf
 | .func _ as bs=>kfL as&&kfL bs
 | .agg cs | .tuple cs=>kfL cs
 | _=>true
def kfL:List AV->Bool
 | []=>true
 | c::r=>c.kf&&kfL r
end
theorem kfL_get : ∀ {l:List AV},kfL l=true -> ∀ (i:Nat) (hi:i<l.length),l[i].kf=true
 | x::r,h,0,_=>by simp [kfL] at h;exact h.1
 | x::r,h,i+1,hi=>by simp [kfL] at h;exact kfL_get h.2 i (by simpa using hi)
theorem RepD.kf {K K':Addr->Option Value} {x:D} {v:Value} (h:RepD K x v):x.kf=true->RepD K' x v:=by
 induction h with
 | bool b=>exact fun _ => .bool b
 | int k n=>exact fun _ => .int k n
 | str s=>exact fun _ => .str s
 | nilIface=>exact fun _ => .nilIface
 | iface t x v _ ih=>exact fun hk => .iface t x v (ih (by simpa [D.kf] using hk))
 | agg cs vs hs _ h1 ih=>exact fun hk => .agg cs vs hs (fun i hi=>ih i hi (kfD_get (by simpa [D.kf] using hk) i hi)) h1
 | ref cs b off vs hk h1 _ _=>exact fun hkf=>by simp [D.kf] at hkf
 | nil k=>exact fun _ => .nil k
 | none0 k a=>exact fun _ => .none0 k a
 | list k l b off cap vs hu hc hk h1 _ ih =>
   intro hkf
   cases l with
   | nil=>exact .list k [] b off cap vs hu hc (fun j hj=>by simp [D.flat] at hj) (fun j hj=>by simp [D.flat] at hj) (fun j hj=>by simp [D.flat] at hj)
   | cons y r=>simp [D.kf] at hkf
theorem RepV.kf {G G':Gh} {w w':World} {ℓ:Loc} {av:AV} {v:Value} (h:RepV G w ℓ av v) (hβ : ∀ a,a<G.nh->G'.β (.o a)=G.β (.o a)) (hn:G.nh<=G'.nh):av.kf=true -> ∀ ℓ',RepV G' w' ℓ' av v:=by
 induction h with
 | undef ℓ v=>exact fun _ ℓ' => .undef ℓ' v
 | abool ℓ b=>exact fun _ ℓ' => .abool ℓ' b
 | d ℓ x v h=>exact fun hk ℓ' => .d ℓ' x v (h.kf (by simpa [AV.kf] using hk))
 | ptr ℓ a off ha=>intro _ ℓ';rw [<-hβ a ha];exact .ptr ℓ' a off (Nat.lt_of_lt_of_le ha hn)
 | nilptr ℓ=>exact fun _ ℓ' => .nilptr ℓ'
 | iptr ℓ cs b off vs hK h1 h=>intro hk;simp [AV.kf] at hk
 | own ℓ k l v h ht=>intro hk;simp [AV.kf] at hk
 | lim ℓ k l v h ht=>intro hk;simp [AV.kf] at hk
 | tail ℓ k l v h ht=>intro hk;simp [AV.kf] at hk
 | func ℓ f as bs va vb ha hb _ _ hc hc' ih ih' =>
   intro hk ℓ'
   simp [AV.kf] at hk
   exact .func ℓ' f as bs va vb ha hb (fun i hi=>ih i hi (kfL_get hk.1 i hi) _) (fun i hi=>ih' i hi (kfL_get hk.2 i hi) _) hc hc'
 | nilfunc ℓ=>exact fun _ ℓ' => .nilfunc ℓ'
 | yield ℓ l hl=>intro _ ℓ';rw [<-hβ l hl];exact .yield ℓ' l (Nat.lt_of_lt_of_le hl hn)
 | map ℓ a ha=>intro _ ℓ';rw [<-hβ a ha];exact .map ℓ' a (Nat.lt_of_lt_of_le ha hn)
 | nilmap ℓ=>exact fun _ ℓ' => .nilmap ℓ'
 | lbox t cs vs e hO hw hs _ hc ih=>intro hk;simp [AV.kf] at hk
 | place ℓ r off=>intro hk;simp [AV.kf] at hk
 | mref ℓ a k lo n b off cap ha h1 h2 h3 h4=>intro _ ℓ';exact .mref ℓ' a k lo n b off cap (Nat.lt_of_lt_of_le ha hn) h1 h2 h3 (fun h=>by rw [hβ a ha];exact h4 h)
 | mcap ℓ a k lo n c b off cap ha h1 h2 h3 h4 h5=>intro _ ℓ';exact .mcap ℓ' a k lo n c b off cap (Nat.lt_of_lt_of_le ha hn) h1 h2 h3 h4 (fun h=>by rw [hβ a ha];exact h5 h)
 | gref ℓ a k p ha hc hq=>intro _ ℓ';rw [<-hβ _ ha,<-hβ _ (by omega:a+1<_)] at hc;rw [<-hβ _ ha,<-hβ _ (by omega:a+1<_)];exact .gref ℓ' a k p (Nat.lt_of_lt_of_le ha hn) hc (fun h=>by rw [hβ _ (by omega:a<_)];exact hq (by rw [<-hβ _ (by omega:a+1<_)];exact h))
 | fresh ℓ k l v h=>intro hk;simp [AV.kf] at hk
 | junk ℓ v h=>exact fun _ ℓ' => .junk ℓ' v h
 | eptr ℓ a k i j ha hi=>intro _ ℓ';rw [<-hβ a ha];exact .eptr ℓ' a k i j (Nat.lt_of_lt_of_le ha hn) hi
 | vptr ℓ a k i j m z ha hi hz hm=>intro _ ℓ';rw [<-hβ a ha];exact .vptr ℓ' a k i j m z (Nat.lt_of_lt_of_le ha hn) hi hz hm
 | agg ℓ cs vs hs _ hc hf ih=>intro hk ℓ';exact .agg ℓ' cs vs hs (fun i hi=>ih i hi (kfL_get (by simpa [AV.kf] using hk) i hi) _) hc hf
 | tuple ℓ cs vs hs _ hc ih=>intro hk ℓ';exact .tuple ℓ' cs vs hs (fun i hi=>ih i hi (kfL_get (by simpa [AV.kf] using hk) i hi) _) hc
def AV.kfo:AV->Bool
 | .own _ []=>true
 | c=>c.kf
def AV.kft:AV->Bool
 | .lbox cs=>cs.all AV.kfo
 | c=>c.kf
theorem RepV.kfo {G G':Gh} {w:World} {ℓ:Loc} {av:AV} {v:Value} (h:RepV G w ℓ av v) (hβ : ∀ a,a<G.nh->G'.β (.o a)=G.β (.o a)) (hn:G.nh<=G'.nh) (hO : ∀ b f,G.O b=some (ℓ,f)->G'.O b=some (ℓ,f)) (hk:av.kfo=true):RepV G' w ℓ av v:=by
 cases av with
 | own k l =>
   cases l with
   | nil =>
     cases h with | own _ _ _ _ h ht =>
     refine .own _ _ _ _ (h.kf rfl) fun a n cap e hc => ?_
     obtain ⟨f,c,e,h1,h2,h3,h4,h5⟩:=ht a n cap e hc
     exact ⟨f,c,e,hO _ _ h1,h2,h3,h4,h5⟩
   | cons x r=>simp [AV.kfo,AV.kf] at hk
 | _=>exact h.kf hβ hn hk ℓ
theorem RepV.kft {G G':Gh} {w:World} {t:Nat} {av:AV} {v:Value} (h:RepV G w (.s t) av v) (hβ : ∀ a,a<G.nh->G'.β (.o a)=G.β (.o a)) (hβs:G'.β (.s t)=G.β (.s t)) (hn:G.nh<=G'.nh)
  (hO : ∀ b f,G.O b=some (.s t,f)->G'.O b=some (.s t,f)) (hOc : ∀ j b f,G.O b=some (.sc t j,f)->G'.O b=some (.sc t j,f)) (hk:av.kft=true):RepV G' w (.s t) av v:=by
 cases av with
 | lbox cs =>
   cases h with | lbox _ _ vs e h1 h2 h3 h4 h5 =>
   have hk' : ∀ c∈cs,c.kfo=true:=by simpa [AV.kft] using hk
   rw [<-hβs] at h1 h2 ⊢
   exact .lbox t cs vs e (hO _ _ (by rw [hβs] at h1 ⊢;exact h1)) h2 h3 (fun j hj=>(h4 j hj).kfo hβ hn (hOc j) (hk' _ (zp6 hj))) h5
 | _=>exact h.kf hβ hn hk _
def thawSt (σ:St) (ts:List Nat) (i j k:Nat) (l:List D) (cs:List AV) (n:Int):St :=
 { env:=ts.map fun t=>(t,σ.get t),heap:=(List.range σ.heap.length).map (fun x=>if x=i then .cells (cs.set j (.mref σ.heap.length k 0 n)) else .dead)++[.arr k l],n:=σ.n }
theorem eget_map (g:Nat->AV) : ∀ (ts:List Nat) (t:Nat),eget (ts.map fun t=>(t,g t)) t=if t∈ts then g t else .undef
 | [],t=>rfl
 | s::r,t=>by
   simp only [List.map_cons,eget,eget_map g r t,List.mem_cons]
   by_cases h:s=t
   ·subst h;simp
   ·have h2 : ¬ t=s:=fun e=>h e.symm
    simp [h,h2]
def lists1 (l:List D):Bool:=l.all fun x=>match x with | .list _ ys=>scalars ys | _=>false
def loose (l:List D):Bool:=scalars l||lists1 l
theorem lists1_get {l:List D} (h:lists1 l=true) {x:D} (hx:x∈l) : ∃ k ys,x = .list k ys/\scalars ys=true:=by
 have:=List.all_eq_true.1 h x hx
 cases x <;> first | (simp at this;done) | exact ⟨_,_,rfl,this⟩
theorem lists1_flat : ∀ {l:List D},lists1 l=true->D.flat l=l
 | [],_=>rfl
 | x::l,h=>by
   obtain ⟨k,ys,rfl,_⟩:=lists1_get h (List.mem_cons_self ..)
   have:=lists1_flat (l:=l) (by unfold lists1 at h ⊢;rw [List.all_cons,zp4] at h;exact h.2)
   unfold D.flat at this ⊢
   rw [List.flatMap_cons,this];rfl
theorem RepD.isSlice {K:Addr->Option Value} {k:Nat} {ys:List D} {v:Value} (h:RepD K (.list k ys) v) : ∃ p n c,v = .slice p n c:=by
 generalize hx:D.list k ys=x at h
 cases h <;> first | (cases hx;exact ⟨_,_,_,rfl⟩) | (cases hx)
theorem RepD.notSlice {K:Addr->Option Value} {x:D} {p:Option Addr} {n c:Nat} (hs:x.scalar=true) (h:RepD K x (.slice p n c)):False:=by
 generalize hv:Value.slice p n c=v at h
 cases h <;> first | (cases hv;done) | (simp [D.scalar] at hs)
theorem RepD.letgo {K K':Addr->Option Value} {b:Nat} {l:List D} (hl:loose l=true) {vs:Nat->Value} (hK : ∀ j,j<(D.flat l).length->K ⟨b,0+j,none⟩=some (vs j)) (hh : ∀ (j:Nat) (hj:j<(D.flat l).length),RepD K (D.flat l)[j] (vs j))
  (hfr : ∀ j,(D.flat l).length<=j->K ⟨b,j,none⟩=none) (hKi : ∀ x v,x.block≠b->K x=some v->K' x=some v) (q:Nat) (hq:q<(D.flat l).length):RepD K' (D.flat l)[q] (vs q):=by
 unfold loose at hl
 rw [Bool.or_eq_true] at hl
 rcases hl with hs | hs
 ·exact (hh q hq).scalar (scalars_flat hs _ (zp6 hq))
 ·have hf:=lists1_flat hs
  have hmem : ∀ x∈D.flat l,x∈l:=fun x hx=>by rwa [hf] at hx
  obtain ⟨k,ys,he,hy⟩:=lists1_get hs (hmem _ (zp6 hq))
  have h:=hh q hq
  rw [he] at h ⊢
  generalize hv:vs q=v at h ⊢
  generalize hx:D.list k ys=x at h ⊢
  cases h <;> first | (cases hx;done) | skip
  ·exact .nil _
  ·exact .none0 _ _
  ·rename_i k' l' b' off cap ws hu hc hK2 h1 h2
   cases hx
   refine .list k ys b' off cap ws hu hc (fun j hj=>hKi _ _ ?_ (hK2 j hj)) h1 (fun j hj=>(h2 j hj).scalar (scalars_flat hy _ (zp6 hj)))
   rintro rfl
   have e1:=hK2 j hj
   rcases Nat.lt_or_ge (off+j) (D.flat l).length with hlt | hge
   ·have e2:=hK (off+j) hlt
    rw [Nat.zero_add,e1] at e2
    obtain ⟨k3,ys3,he3,_⟩:=lists1_get hs (hmem _ (zp6 hlt))
    have h3:=hh (off+j) hlt
    rw [he3,<-Option.some.inj e2] at h3
    obtain ⟨p,n,c,hv3⟩:=h3.isSlice
    have h4:=h2 j hj
    rw [hv3] at h4
    exact h4.notSlice (scalars_flat hy _ (zp6 hj))
   ·rw [hfr _ hge] at e1;cases e1
theorem Rel.thawC {G:Gh} {σ:St} {a:Act} {w:World} (R:Rel G σ a w) {ts:List Nat} {i j k:Nat} {l:List D} {cs:List AV} {n:Int} (hi:σ.heap[i]?=some (.cells cs)) (hj:cs[j]?=some (.own k l)) (hl:l≠[]) (hs:loose l=true) (hn:(l.length:Int)=n)
  (hts : ∀ t∈ts,(σ.get t).kft=true) (hcs : ∀ q c,q≠j->cs[q]?=some c->c.kf=true) :
  ∃ b G',Rel G' (thawSt σ ts i j k l cs n) a w/\(∃ p,G.O b=some p)/\(∀ x v,G'.K x=some v↔x.block≠b/\G.K x=some v)/\(∀ c,G.O c=none->G'.O c=none):=by
 have hil:i<σ.heap.length:=(zp2.1 hi).1
 have hjl:j<cs.length:=(zp2.1 hj).1
 have hcj:cs[j] = .own k l:=(zp2.1 hj).2
 obtain ⟨vs,e,o1,o2,o3,o4,o5⟩:=R.h.objs i _ hi
 have hv:=o4 j hjl
 rw [hcj] at hv
 generalize hvv0:vs.getD j Go.undef=v at hv
 cases hv with | own _ _ _ _ hr ht =>
 rcases hr.slice with ⟨rfl,_⟩ | ⟨b,off,cap,hvv⟩
 ·exact absurd rfl hl
 have hlen:0<l.length:=List.length_pos_iff.2 hl
 have hcap:l.length<=cap:=by
  rw [hvv] at hr
  generalize hv':Value.slice (some ⟨b,off,none⟩) l.length cap=v at hr
  cases hr with
  | nil=>simp at hv'
  | none0=>simp
  | list k l b' off' cap' vs hu hc=>simp at hv';omega
 obtain ⟨fr,c,e0,t1,t2,t3,t4,t5⟩:=ht _ _ _ hvv (by omega)
 dsimp only at t1 t2 t3 t4 t5
 subst t5
 have hnh:σ.heap.length=G.nh:=R.h.nh
 obtain ⟨hu,hK,hKK,h1c,hh⟩:uniform k l /\ ∃ vs:Nat->Value,(∀ j,j<(D.flat l).length->G.K ⟨b,0+j,none⟩=some (vs j))/\(∀ j,j<(D.flat l).length->(vs j).oneCell'=true) /\ ∀ (j:Nat) (hj:j<(D.flat l).length),RepD G.K (D.flat l)[j] (vs j):=by
  rw [hvv] at hr
  generalize hv':Value.slice (some ⟨b,0,none⟩) l.length cap=v at hr
  cases hr with
  | nil=>simp at hv'
  | none0=>exact absurd rfl hl
  | list k l b' off' cap' vs hu hc hK h1 hh =>
    simp at hv'
    obtain ⟨⟨rfl,rfl⟩,_⟩:=hv'
    exact ⟨hu,vs,hK,h1,hh⟩
 have hfl:=flat_length hu
 have hsz:(D.flat l).length<=c.size:=by
  have:l.length*k<=cap*k:=Nat.mul_le_mul_right k hcap
  omega
 have hcell : ∀ j,j<(D.flat l).length->c.getD j Go.undef=hK j:=by
  intro j hj
  have:=R.h.kept _ _ (hKK j hj)
  rw [Nat.zero_add] at this
  have h2:=cell_at t3 (show j<c.size by omega)
  rw [this] at h2
  exact (Option.some.inj h2).symm
 have hbi:b≠G.β (.o i):=by rintro rfl;rw [o1] at t1;cases t1
 let G':Gh:={ K:=fun x=>if x.block=b then none else G.K x,O:=fun x=>if x=b then some (.o G.nh,0) else G.O x,β:=fun r=>if r = .o G.nh then b else G.β r,nh:=G.nh+1 }
 have hβ : ∀ i,i<G.nh->G'.β (.o i)=G.β (.o i):=by
  intro i hi
  simp only [G',Root.o.injEq]
  rw [if_neg (by omega)]
 have hKi : ∀ x v,G'.K x=some v↔x.block≠b/\G.K x=some v:=by
  intro x v
  simp only [G']
  split <;> simp_all
 have hin:i<G.nh:=by omega
 have hOo : ∀ {ℓ:Loc},ℓ ≠ .oc i j -> ∀ b' f',G.O b'=some (ℓ,f')->G'.O b'=some (ℓ,f'):=by
  intro ℓ hne b' f' h
  simp only [G']
  rw [if_neg];exact h
  rintro rfl
  rw [t1] at h;simp at h;exact hne h.1.symm
 refine ⟨b,G',⟨⟨⟨fun b' ℓ f' h => ?_⟩,by simp [thawSt,G',hnh],fun i' ob hob => ?_,fun x v h=>R.h.kept x v ((hKi x v).1 h).2,fun b' ℓ f' h => ?_⟩,R.size,fun t => ?_,fun t r off' ht => ?_,?_⟩,⟨_,t1⟩,hKi,fun c' hc' => ?_⟩
 ·simp only [G'] at h
  split at h
  ·simp at h;rw [<-h.1];simp [Loc.root]
  ·exact R.h.sane.no b' ℓ f' h
 ·simp only [thawSt] at hob
  rcases Nat.lt_or_ge i' σ.heap.length with hlt | hge
  ·rw [zp7 (by simpa using hlt)] at hob
   rw [List.getElem?_map,List.getElem?_range hlt] at hob
   simp only [Option.map_some,zp3] at hob
   split at hob
   ·rename_i hii;subst hii;subst hob
    refine ⟨vs,e,?_,?_,by simpa using o3,fun q hq => ?_,fun x hx => ?_⟩
    ·rw [hβ i' hin];simp only [G'];rw [if_neg (Ne.symm hbi)];exact o1
    ·rw [hβ i' hin];exact o2
    ·rw [List.length_set] at hq
     by_cases hqj:q=j
     ·subst hqj
      rw [List.getElem_set_self,hvv0,hvv,hnh,<-hn]
      have:=RepV.mref (G:=G') (w:=w) (.oc i' q) G.nh k 0 (l.length:Int) b 0 cap (by simp [G']) (Int.le_refl _) (by omega) (by simpa using hcap) (fun _=>⟨by simp [G'],by simp⟩)
      simpa using this
     ·rw [List.getElem_set_ne (Ne.symm hqj)]
      exact (o4 q hq).kf hβ (Nat.le_succ _) (hcs q _ hqj (zp1 hq)) _
    ·rcases List.mem_or_eq_of_mem_set hx with hx | rfl
     ·exact o5 x hx
     ·rfl
   ·subst hob;trivial
  ·rcases Nat.eq_or_lt_of_le hge with rfl | hgt
   ·rw [zp8 (by simp)] at hob
    simp at hob
    subst hob
    refine ⟨c,e0,?_,?_,hu,hsz,fun q hq => ?_,fun q hq => ?_⟩
    ·simp [G',hnh]
    ·simpa [G',hnh] using t3
    ·rw [hcell q hq];exact h1c q hq
    ·rw [hcell q hq]
     exact RepD.letgo hs hKK hh (fun x hx=>(R.h.disj _ _ _ t1).2 x (by omega)) (fun x v hx hv=>(hKi x v).2 ⟨hx,hv⟩) q hq
   ·rw [List.getElem?_eq_none (by simp;omega)] at hob;cases hob
 ·simp only [G'] at h ⊢
  split at h
  ·rename_i hb;subst hb
   exact ⟨(R.h.disj _ _ _ t1).1,fun q _=>by simp⟩
  ·rename_i hb
   have:=R.h.disj b' ℓ f' h
   exact ⟨this.1,fun q hq=>by simp only [hb,if_false];exact this.2 q hq⟩
 ·simp only [thawSt,St.get,eget_map]
  split
  ·rename_i htm
   exact (R.slots t).kft hβ (by simp [G']) (Nat.le_succ _) (hOo (by simp)) (fun j=>hOo (by simp)) (hts t htm)
  ·exact .undef _ _
 ·simp only [thawSt,St.get,eget_map] at ht
  split at ht
  ·rename_i htm
   have:=hts t htm
   simp only [St.get] at this
   rw [ht] at this;simp [AV.kft,AV.kf] at this
  ·cases ht
 ·refine ⟨R.df.1,fun d hd => ?_⟩
  obtain ⟨r0,h1,h2,h3⟩:=R.df.2 d hd
  refine ⟨r0,h1,?_,h3⟩
  simp only [G']
  rw [if_neg (by rintro rfl;rw [h2] at t1;cases t1)];exact h2
 ·simp only [G']
  rw [if_neg (by rintro rfl;rw [t1] at hc';cases hc')];exact hc'
def AWpR (P:Program) (c:Code) (Q:Exit->St->Prop) (σ:St):Prop :=
 ∀ (n:Nat) (G0:Gh) (w0:World) (G:Gh) (a:Act) (w:World),(∀ b,G0.O b=none)->(∀ x v,G0.K x=some v->x.block<w0.heap.size)->Rel G σ a w->Ext 0 G0 w0 G w->c.wpIn (Wd none) n P (Post 0 G0 w0 Q) a w
section
variable {P:Program} {c x y:Code} {Q:Exit->St->Prop} {σ:St}
theorem AWpR.of (h:AWpT P 0 c Q σ):AWpR P c Q σ:=fun n G0 w0 G a w _ _ R hE=>wpIn_mono (h n G a w (Nat.zero_le _) R) (fun _ _ _ hp=>hp.ext hE)
theorem AWpR.seq (h:AWpT P 0 x (AExit.then (AWpR P y Q) Q) σ):AWpR P (.seq x y) Q σ:=by
 intro n G0 w0 G a w hO hK R hE0
 refine wpIn_seq (wpIn_mono (h n G a w (Nat.zero_le _) R) ?_)
 rintro e a' w' ⟨σ',G',R',hE,hm',hQ⟩
 cases e with
 | normal=>exact hQ n G0 w0 G' a' w' hO hK R' (hE0.trans hE)
 | _=>exact ⟨σ',G',R',hE0.trans hE,hm',hQ⟩
theorem AWpR.seq2 (h:AWpR P x (AExit.then (AWpR P y Q) Q) σ):AWpR P (.seq x y) Q σ:=by
 intro n G0 w0 G a w hO hK R hE0
 refine wpIn_seq (wpIn_mono (h n G0 w0 G a w hO hK R hE0) ?_)
 rintro e a' w' ⟨σ',G',R',hE,hm',hQ⟩
 cases e with
 | normal=>exact hQ n G0 w0 G' a' w' hO hK R' hE
 | _=>exact ⟨σ',G',R',hE,hm',hQ⟩
theorem AWpR.thawC (ts:List Nat) (i j:Nat) {k:Nat} {l:List D} {cs:List AV} {n:Int} (hi:σ.heap[i]?=some (.cells cs)) (hj:cs[j]?=some (.own k l)) (hl:l≠[]) (hs:loose l=true) (hn:(l.length:Int)=n)
  (hts:ts.all (fun t=>(σ.get t).kft)=true) (hcs:kfL (cs.set j .undef)=true) (h:AWpR P c Q (thawSt σ ts i j k l cs n)):AWpR P c Q σ:=by
 intro n' G0 w0 G a w hO hK R hE
 obtain ⟨b,G',R',⟨p,hb⟩,hKi,hO'⟩:=R.thawC (ts:=ts) hi hj hl hs hn (fun t ht=>List.all_eq_true.1 hts t ht) (fun q c hq hc=>by
  have hql:q<cs.length:=(zp2.1 hc).1
  have:=kfL_get hcs q (by simpa using hql)
  rw [List.getElem_set_ne (Ne.symm hq)] at this
  rw [(zp2.1 hc).2] at this
  exact this)
 have hnew:w0.heap.size<=b:=by
  rcases Nat.lt_or_ge b w0.heap.size with hlt | hge
  ·have:=(hE.others b hlt (hO b)).2
   rw [hb] at this;cases this
  ·exact hge
 refine h n' G0 w0 G' a w hO hK R' ⟨fun x v hx=>(hKi x v).2 ⟨fun e => ?_,hE.K x v hx⟩,fun x v hx=>hE.new x v ((hKi x v).1 hx).2,fun b' hb' hO1=>⟨(hE.others b' hb' hO1).1,hO' _ (hE.others b' hb' hO1).2⟩,hE.size,fun i hi=>absurd hi (Nat.not_lt_zero _),hE.io⟩
 have:=hK x v hx
 omega
end
theorem ACall.enterR {P:Program} {T:Types} (hT:TOk P T) {f:FuncId} {fn:Func} {c:Code} {args:List AV} {H':List Obj} {r:AV} (hf:P.funcs[f]?=some fn) (hb:fn.body=some c) (hname:fn.name ≠ "runtime.NumGoroutine")
  (hn:args.length<=fn.ntmps) (hfr:args.all AV.free=true) (hia:inbL 0 args=true) (hrl:r.isLocal=false) (hri:r.inb H'.length=true) (hin:objsInb H'.length H'=true)
  (h:AWpR P c (FnPost T fn 0 r H') { env:=envOf 0 args,heap:=[],n:=fn.ntmps }):ACall P f args [] r H':=by
 refine ⟨by simp [callable,hf,hb,hname],hrl,hri,hin,Nat.zero_le _,fun n G w vs hvs hrep RH _ => ?_⟩
 let G1:Gh:={ G with O:=fun _=>none }
 have RH1:RelH G1 [] w:=⟨⟨fun b ℓ f h=>by cases h⟩,RH.nh,fun i ob h=>by simp at h,RH.kept,fun b ℓ f h=>by cases h⟩
 have hfr' : ∀ c∈args,c.free=true:=by simpa using hfr
 have hsub:Sub G G1 w w (fun ℓ=>ℓ = .no) 0:=⟨KLe.refl _,fun b ℓ f hl hO=>absurd (hl▸rfl) (RH.sane.no b ℓ f hO),fun _ _=>rfl,Nat.zero_le _⟩
 refine CallsIn.mono (ACall.enterW hT hf hb hname hn hfr hrl hri hin (Nat.zero_le _) n G1 w (fun a R=>h n G1 w G1 a w (fun _=>rfl) (fun x v hx=>World.block_lt_of_cell? w _ (RH.kept x v hx)) R (Ext.refl _ _ _)) vs hvs
  (fun i hi=>(hrep i hi).sub RH.sane hsub rfl (inbL_get hia i hi) (AV.free_isLocal (hfr' _ (zp6 hi)))) RH1) ?_
 rintro e w' ⟨v,G',rfl,hv,R',hE⟩
 exact ⟨v,G',rfl,hv,R',hE.K,fun x v hx=>(hE.new x v hx).imp id (fun h=>h.elim (fun ⟨p,hp⟩=>by cases hp) .inr),fun b hb _=>hE.others b hb rfl,hE.size,fun i hi=>absurd hi (Nat.not_lt_zero _),hE.io⟩
end Go.Am

namespace Go.Am
open Go
section
variable (x y:Int) (l m:List D)
@[simp] theorem std_zle:Ar.std.zle x y=decide (x<=y):=rfl
@[simp] theorem std_zlt:Ar.std.zlt x y=decide (x<y):=rfl
@[simp] theorem std_zeq:Ar.std.zeq x y=decide (x=y):=rfl
@[simp] theorem std_wrp (k:IntKind):Ar.std.wrp k x=k.wrap x:=rfl
@[simp] theorem std_zadd:Ar.std.zadd x y=x+y:=rfl
@[simp] theorem std_zsub:Ar.std.zsub x y=x-y:=rfl
@[simp] theorem std_zmul:Ar.std.zmul x y=x*y:=rfl
@[simp] theorem std_nat:Ar.std.nat x=x.toNat:=rfl
@[simp] theorem std_len:Ar.std.len l=(l.length:Int):=rfl
@[simp] theorem std_lget (i:Nat):Ar.std.lget l i=l[i]?:=rfl
@[simp] theorem std_fits:Ar.std.fits x=decide (x<4294967296):=rfl
@[simp] theorem std_sub:Ar.std.sub l x y=(l.drop x.toNat).take (y.toNat-x.toNat):=rfl
@[simp] theorem std_app:Ar.std.app l m=l++m:=rfl
@[simp] theorem std_quo (k:IntKind):Ar.std.quo k x y=k.wrap (x.tdiv y):=rfl
@[simp] theorem std_rem:Ar.std.rem x y=x.tmod y:=rfl
@[simp] theorem std_shl (k:IntKind):Ar.std.shl k x y=k.wrap (x*2 ^ (min y.toNat k.bits)):=rfl
@[simp] theorem std_shr (k:IntKind):Ar.std.shr k x y=x.fdiv (2 ^ (min y.toNat k.bits)):=rfl
@[simp] theorem std_bits (op:BinOp) (k:IntKind):Ar.std.bits op k x y=bitsStd op k x y:=rfl
@[simp] theorem std_beq (a b:Bool):Ar.std.beq a b=(a == b):=rfl
@[simp] theorem std_zmin:Ar.std.zmin x y=if y<x then y else x:=rfl
@[simp] theorem std_zmax:Ar.std.zmax x y=if y>x then y else x:=rfl
@[simp] theorem std_mget (es:List (D×D)) (k:D):Ar.std.mget es k=Am.mget es k:=rfl
@[simp] theorem std_mput (es:List (D×D)) (k v:D):Ar.std.mput es k v=Am.mput es k v:=rfl
@[simp] theorem std_lset (i:Nat) (d:D):Ar.std.lset l i d=l.set i d:=rfl
@[simp] theorem std_rep (d:D):Ar.std.rep x d=List.replicate x.toNat d:=rfl
@[simp] theorem std_ones:Ar.std.ones l=l.all D.isOne:=rfl
@[simp] theorem std_spl:Ar.std.spl l x m=l.take x.toNat++m++l.drop (x.toNat+m.length):=rfl
@[simp] theorem std_fill (d:D):Ar.std.fill l x y d=fillStd l x y d:=rfl
open Classical in
@[simp] theorem std_deq:Ar.std.deq l m=decide (l=m):=rfl
end
theorem i64w (n:Int) (h0 : -9223372036854775808<=n) (h1:n<9223372036854775808):IntKind.i64.wrap n=n:=by
 simp [IntKind.wrap_i64];omega
@[simp] theorem bsome {α β:Type} (a:α) (f:α->Option β):(some a).bind f=f a:=rfl
@[simp] theorem ck_true:ck true=some ():=rfl
@[simp] theorem nk_false:nk false=some ():=rfl
theorem ck_of {b:Bool} (h:b=true):ck b=some ():=by rw [h];rfl
theorem nk_of {b:Bool} (h:b=false):nk b=some ():=by rw [h];rfl
@[simp] theorem cond_some {α:Type} (c:Bool) (a b:α):(bif c then some a else some b)=some (bif c then a else b):=by cases c <;> rfl
@[simp] theorem cI_un (k:IntKind) (n:Int):(cI k).un (.int k n)=some n:=by simp [cI]
@[simp] theorem cB_un (b:Bool):cB.un (.bool b)=some b:=rfl
@[simp] theorem cS_un (b:ByteArray):cS.un (.str b)=some b:=rfl
@[simp] theorem cA_un (l:List D):cA.un (.agg l)=some l:=rfl
@[simp] theorem l1_un {τ:Type} (c:Cod τ) (x:D):(l1 c).un [x]=c.un x:=rfl
@[simp] theorem lc_un {τ ρ:Type} (c:Cod τ) (d:CodL ρ) (x:D) (r:List D):(lc c d).un (x::r)=(c.un x).bind fun a=>(d.un r).map fun b=>(a,b):=rfl
@[simp] theorem cG_un {τ:Type} (d:CodL τ) (l:List D):(cG d).un (.agg l)=d.un l:=rfl
theorem sl_map {α:Type} (f:α->D) (l:List α) (lo hi:Int) (h0:0<=lo) (h1:lo<=hi) (h2:hi<=l.length):sl Ar.std (l.map f) lo hi=some (((l.drop lo.toNat).take (hi.toNat-lo.toNat)).map f):=by
 simp [sl,h0,h1,h2,List.map_take,List.map_drop]
theorem sl_take {α:Type} (f:α->D) (l:List α) (i:Nat) (h2:i<=l.length):sl Ar.std (l.map f) 0 (i:Int)=some ((l.take i).map f):=by
 rw [sl_map f l 0 i (by omega) (by omega) (by omega)];simp
theorem ap_map {α:Type} (f:α->D) (l m:List α) (h:(l.length:Int)+m.length<4294967296):ap Ar.std (l.map f) (m.map f)=some ((l++m).map f):=by
 simp [ap,h]
section
variable {S X:Type} {step:S->Option (S⊕X)}
end
end Go.Am

namespace Go.Am
open Go
def foldE {α S X:Type} (f:S->α->S⊕X) (fin:S->X):List α->S->X
 | [],s=>fin s
 | a::l,s=>(f s a).elim (foldE f fin l) id
section
variable {α S X:Type}
theorem foldE_cons (f:S->α->S⊕X) (fin:S->X) (a:α) (l:List α) (s:S):foldE f fin (a::l) s=(f s a).elim (foldE f fin l) id:=rfl
theorem foldE_inl (g:S->α->S) (fin:S->X) : ∀ (l:List α) (s:S),foldE (fun s a => .inl (g s a)) fin l s=fin (l.foldl g s)
 | [],_=>rfl
 | a::l,s=>by simp only [foldE_cons,Sum.elim_inl,foldE_inl g fin l,List.foldl_cons]
variable {T:Type} {step:T->Option (T⊕X)}
theorem iter_list (l:List α) (st:S->Nat->T) (f:S->α->S⊕X) (fin:S->X) (Inv:Nat->S->Prop)
  (hs : ∀ i a s,l[i]?=some a->Inv i s->(∃ s',f s a = .inl s'/\Inv (i+1) s'/\step (st s i)=some (.inl (st s' (i+1))))\/(∃ x,f s a = .inr x/\step (st s i)=some (.inr x)))
  (he : ∀ s,Inv l.length s->step (st s l.length)=some (.inr (fin s))) (s0:S) (h0:Inv 0 s0):iter step (st s0 0)=some (foldE f fin l s0):=by
 have key : ∀ (k i:Nat) (s:S),i+k=l.length->Inv i s->iter step (st s i)=some (foldE f fin (l.drop i) s):=by
  intro k
  induction k with
  | zero =>
    intro i s hi hI
    obtain rfl:i=l.length:=by omega
    rw [List.drop_length,iter_inr (he s hI)];rfl
  | succ k ih =>
    intro i s hi hI
    have hlt:i<l.length:=by omega
    rw [List.drop_eq_getElem_cons hlt,foldE_cons]
    rcases hs i l[i] s (zp1 hlt) hI with ⟨s',h1,h2,h3⟩ | ⟨x,h1,h3⟩
    ·rw [h1,iter_inl h3,ih (i+1) s' (by omega) h2];rfl
    ·rw [h1,iter_inr h3];rfl
 have:=key l.length 0 s0 (by omega) h0
 simpa using this
theorem iter_list0 (l:List α) (st:S->Nat->T) (f:S->α->S⊕X) (fin:S->X)
  (hs : ∀ i a s,l[i]?=some a->i<l.length->step (st s i)=some ((f s a).elim (fun s' => .inl (st s' (i+1))) .inr))
  (he : ∀ s,step (st s l.length)=some (.inr (fin s))) (s0:S):iter step (st s0 0)=some (foldE f fin l s0):=by
 refine iter_list l st f fin (fun _ _=>True) (fun i a s ha _ => ?_) (fun s _=>he s) s0 trivial
 have:=hs i a s ha (zp2.1 ha).1
 cases hf:f s a with
 | inl s'=>rw [hf] at this;exact .inl ⟨s',rfl,trivial,this⟩
 | inr x=>rw [hf] at this;exact .inr ⟨x,rfl,this⟩
end
section
variable {α τ:Type}
theorem ap_std {l m:List D} (h:(l.length:Int)+m.length<4294967296):ap Ar.std l m=some (l++m):=by
 simp [ap,h]
theorem i64w1 {i n:Nat} (h:i<n) (hn:n<9223372036854775808):IntKind.i64.wrap ((i:Int)+1)=((i+1:Nat):Int):=by
 rw [i64w _ (by omega) (by omega)];omega
end
end Go.Am

namespace Go.Am
open Go
end Go.Am

namespace Go.Am
open Go
section
variable {τ:Type}
def ltF (f:τ->τ->Option Int) (x y:τ):Bool:=match f x y with
 | some r=>decide (r<0)
 | none=>false
structure CmpOk (f:τ->τ->Option Int) (xs:List τ):Prop where
 some : ∀ x∈xs,∀ y∈xs,∃ r,f x y=some r
 irr : ∀ x∈xs,ltF f x x=false
 tr : ∀ x∈xs,∀ y∈xs,∀ z∈xs,ltF f x y=true->ltF f y z=true->ltF f x z=true
 tot : ∀ x∈xs,∀ y∈xs,ltF f x y=false->ltF f y x=false->x=y
theorem CmpOk.ntr {f:τ->τ->Option Int} {xs:List τ} (h:CmpOk f xs) : ∀ x∈xs,∀ y∈xs,∀ z∈xs,ltF f x y=false->ltF f y z=false->ltF f x z=false:=by
 intro x hx y hy z hz h1 h2
 cases h3:ltF f x z with
 | false=>rfl
 | true =>
   cases h4:ltF f y x with
   | false=>rw [h.tot x hx y hy h1 h4] at h3;rw [h3] at h2;cases h2
   | true=>rw [h.tr y hy x hx z hz h4 h3] at h2;cases h2
open Classical in
noncomputable def srt (c:Cod τ) (f:τ->τ->Option Int) (lo n:Int) (l:List D):Option (List D) :=
 if h:lo=0/\n=(l.length:Int)/\n<4611686018427387904 /\ ∃ xs:List τ,l=xs.map c.en/\CmpOk f xs then some ((h.2.2.2.choose.mergeSort fun x y => !ltF f y x).map c.en) else none
theorem Cod.inj (c:Cod τ) {x y:τ} (h:c.en x=c.en y):x=y:=by
 have:=c.ko x
 rw [h,c.ko] at this
 exact (Option.some.inj this).symm
theorem Cod.map_inj (c:Cod τ) : ∀ {xs ys:List τ},xs.map c.en=ys.map c.en->xs=ys
 | [],[],_=>rfl
 | [],_::_,h=>by simp at h
 | _::_,[],h=>by simp at h
 | x::xs,y::ys,h=>by
   simp at h
   rw [c.inj h.1,Cod.map_inj c (xs:=xs) (ys:=ys) (by simpa using h.2)]
theorem srt_eq {c:Cod τ} {f:τ->τ->Option Int} {n:Int} {xs:List τ} (hn:n=(xs.length:Int)) (hs:n<4611686018427387904) (h:CmpOk f xs):srt c f 0 n (xs.map c.en)=some ((xs.mergeSort fun x y => !ltF f y x).map c.en):=by
 have hh:(0:Int)=0/\n=((xs.map c.en).length:Int)/\n<4611686018427387904 /\ ∃ ys:List τ,xs.map c.en=ys.map c.en/\CmpOk f ys:=⟨rfl,by simpa using hn,hs,xs,rfl,h⟩
 unfold srt
 rw [dif_pos hh]
 have:=hh.2.2.2.choose_spec.1
 rw [<-c.map_inj this]
theorem srtI {c:Cod τ} {f:τ->τ->Option Int} {lo n:Int} {l l':List D} (h:srt c f lo n l=some l'):lo=0/\n=(l.length:Int)/\n<4611686018427387904 /\ ∃ xs:List τ,l=xs.map c.en/\CmpOk f xs/\l'=(xs.mergeSort fun x y => !ltF f y x).map c.en:=by
 unfold srt at h
 split at h
 ·rename_i hh
  have hc:=hh.2.2.2.choose_spec
  generalize hh.2.2.2.choose=xs at h hc
  exact ⟨hh.1,hh.2.1,hh.2.2.1,xs,hc.1,hc.2,(Option.some.inj h).symm⟩
 ·cases h
end
end Go.Am

namespace Go.Am
open Go
def enc {τ:Type} (c:Cod τ) (l:List τ):List D:=l.map c.en
section
variable {τ α:Type} {c:Cod τ} {l m:List τ}
@[simp] theorem enc_nil:enc c []=[]:=rfl
@[simp] theorem enc_cons (a:τ):enc c (a::l)=c.en a::enc c l:=rfl
theorem enc_append:enc c (l++m)=enc c l++enc c m:=by simp [enc]
@[simp] theorem enc_length:(enc c l).length=l.length:=by simp [enc]
theorem enc_get (i:Nat):(enc c l)[i]?=l[i]?.map c.en:=by simp [enc]
theorem gt_enc {i:Nat} {a:τ} (h:l[i]?=some a):gt Ar.std c (enc c l) (i:Int)=some a:=by simp [gt,enc_get,h,c.ko]
theorem gt_encI {i:Int} {a:τ} (h0:0<=i) (h:l[i.toNat]?=some a):gt Ar.std c (enc c l) i=some a:=by simp [gt,h0,enc_get,h,c.ko]
theorem gc_enc {i:Nat} {a:τ} (h:l[i]?=some a):gc Ar.std c (enc c l) i=some a:=by simp [gc,enc_get,h,c.ko]
theorem gt_enc_map {g:α->τ} {l:List α} {i:Nat} {a:α} (h:l[i]?=some a):gt Ar.std c (enc c (l.map g)) (i:Int)=some (g a):=gt_enc (by simp [h])
theorem gt_enc_mapI {g:α->τ} {l:List α} {i:Int} {a:α} (h0:0<=i) (h:l[i.toNat]?=some a):gt Ar.std c (enc c (l.map g)) i=some (g a):=gt_encI h0 (by simp [h])
@[simp] theorem len_enc:Ar.std.len (enc c l)=(l.length:Int):=by simp
theorem sl_encT {i:Nat} (h:i<=l.length):sl Ar.std (enc c l) 0 (i:Int)=some (enc c (l.take i)):=sl_take _ _ _ h
theorem ap_enc1 {a:τ} {d:D} (hd:c.en a=d) (h:l.length<4294967295):ap Ar.std (enc c l) [d]=some (enc c (l++[a])):=by
 subst hd
 have:[c.en a]=[a].map c.en:=rfl
 rw [this]
 exact ap_map _ l [a] (by simp;omega)
end
section
variable {S X α:Type}
theorem iter_rng {step:Int->Option (Int⊕X)} (n:Nat) (p:Nat->Bool) (x y:X)
  (hs : ∀ i,i<n->step (i:Int)=some (bif p i then .inr x else .inl ((i+1:Nat):Int))) (he:step (n:Int)=some (.inr y)):iter step 0=some (bif (List.range n).any p then x else y):=by
 have key : ∀ k i,i+k=n->iter step (i:Int)=some (bif ((List.range' i k).any p) then x else y):=by
  intro k
  induction k with
  | zero=>intro i hi;obtain rfl:i=n:=by omega
          simpa using iter_inr he
  | succ k ih =>
    intro i hi
    have h:=hs i (by omega)
    rw [List.range'_succ,List.any_cons]
    cases hp:p i with
    | true=>rw [hp] at h;simpa using iter_inr h
    | false=>rw [hp] at h;rw [iter_inl h,ih (i+1) (by omega)];rfl
 have:=key n 0 (by omega)
 rw [List.range_eq_range']
 simpa using this
theorem range_any {l:List α} {q:α->Bool} {p:Nat->Bool} (h : ∀ i a,l[i]?=some a->p i=q a):(List.range l.length).any p=l.any q:=by
 rw [Bool.eq_iff_iff]
 simp only [List.any_eq_true,List.mem_range]
 constructor
 ·rintro ⟨i,hi,hp⟩
  exact ⟨l[i],zp6 hi,by rw [<-h i _ (zp1 hi)];exact hp⟩
 ·rintro ⟨a,ha,hq⟩
  obtain ⟨i,hi,rfl⟩:=List.getElem_of_mem ha
  exact ⟨i,hi,by rw [h i _ (zp1 hi)];exact hq⟩
theorem iter_any {step:Int->Option (Int⊕X)} (l:List α) (p:α->Bool) (x y:X)
  (hs : ∀ i a,l[i]?=some a->i<l.length->step (i:Int)=some (bif p a then .inr x else .inl ((i+1:Nat):Int))) (he:step (l.length:Int)=some (.inr y)):iter step 0=some (bif l.any p then x else y):=by
 have:=iter_rng (step:=step) l.length (fun i=>(l[i]?.map p).getD false) x y (fun i hi=>by
  have h:=zp1 hi
  rw [h];exact hs i _ h hi) he
 rw [this,range_any (q:=p) (fun i a h=>by rw [h];rfl)]
theorem iter_find {step:Int->Option (Int⊕X)} (l:List α) (p:α->Bool) (f:Nat->X) (y:X)
  (hs : ∀ i a,l[i]?=some a->i<l.length->step (i:Int)=some (bif p a then .inr (f i) else .inl ((i+1:Nat):Int))) (he:step (l.length:Int)=some (.inr y)):iter step 0=some ((l.findIdx? p).elim y f):=by
 have key : ∀ k i,i+k=l.length->iter step (i:Int)=some (((l.drop i).findIdx? p).elim y (fun j=>f (i+j))):=by
  intro k
  induction k with
  | zero=>intro i hi;obtain rfl:i=l.length:=by omega
          simpa using iter_inr he
  | succ k ih =>
    intro i hi
    have hlt:i<l.length:=by omega
    have h:=hs i _ (zp1 hlt) hlt
    rw [List.drop_eq_getElem_cons hlt,List.findIdx?_cons]
    cases hp:p l[i] with
    | true=>rw [hp] at h;simpa using iter_inr h
    | false =>
      rw [hp] at h;rw [iter_inl h,ih (i+1) (by omega)]
      cases hd:(l.drop (i+1)).findIdx? p with
      | none=>simp
      | some j=>simp;congr 1;omega
 have:=key l.length 0 (by omega)
 simpa using this
end
theorem iter_relE {S T X:Type} {step:T->Option (T⊕X)} (n:Nat) (st:S->Nat->T) (R:Nat->S->Prop) (E:Nat->X->Prop) (fin:S->X)
  (hs : ∀ i s,i<n->R i s->(∃ s',R (i+1) s'/\step (st s i)=some (.inl (st s' (i+1)))) \/ ∃ x,E i x/\step (st s i)=some (.inr x))
  (he : ∀ s,R n s->step (st s n)=some (.inr (fin s))) (s0:S) (h0:R 0 s0):(∃ s,R n s/\iter step (st s0 0)=some (fin s)) \/ ∃ i x,i<n/\E i x/\iter step (st s0 0)=some x:=by
 have key : ∀ k i s,i+k=n->R i s->(∃ s',R n s'/\iter step (st s i)=some (fin s')) \/ ∃ j x,j<n/\E j x/\iter step (st s i)=some x:=by
  intro k
  induction k with
  | zero=>intro i s hi hR;obtain rfl:i=n:=by omega
          exact .inl ⟨s,hR,iter_inr (he s hR)⟩
  | succ k ih =>
    intro i s hi hR
    rcases hs i s (by omega) hR with ⟨s',h1,h2⟩ | ⟨x,h1,h2⟩
    ·rw [iter_inl h2];exact ih (i+1) s' (by omega) h1
    ·exact .inr ⟨i,x,by omega,h1,iter_inr h2⟩
 exact key n 0 s0 (by omega) h0
theorem iter_rel {S T X:Type} {step:T->Option (T⊕X)} (n:Nat) (st:S->Nat->T) (R:Nat->S->Prop) (fin:S->X)
  (hs : ∀ i s,i<n->R i s -> ∃ s',R (i+1) s'/\step (st s i)=some (.inl (st s' (i+1))))
  (he : ∀ s,R n s->step (st s n)=some (.inr (fin s))) (s0:S) (h0:R 0 s0) : ∃ s,R n s/\iter step (st s0 0)=some (fin s):=by
 rcases iter_relE n st R (fun _ _=>False) fin (fun i s hi hR => .inl (hs i s hi hR)) he s0 h0 with h | ⟨_,_,_,h,_⟩
 ·exact h
 ·exact h.elim
theorem enc_set {τ:Type} {c:Cod τ} (l:List τ) (i:Nat) (a:τ):(enc c l).set i (c.en a)=enc c (l.set i a):=by
 simp [enc,List.map_set]
theorem enc_rep {τ:Type} {c:Cod τ} (n:Int) (a:τ):Ar.std.rep n (c.en a)=enc c (List.replicate n.toNat a):=by simp [enc]
theorem take_succ_get {α:Type} {l:List α} {i:Nat} {a:α} (h:l[i]?=some a):l.take (i+1)=l.take i++[a]:=by
 rw [List.take_add_one,h];rfl
theorem wrap1 {i n:Nat} (h:i<n) (hn:n<9223372036854775808):IntKind.i64.wrap ((i:Int)+1)=((i+1:Nat):Int):=i64w1 h hn
theorem wrapS {x:Int} (h0 : -9223372036854775807<=x) (h1:x<9223372036854775808):IntKind.i64.wrap (x-1)=x-1:=i64w _ (by omega) (by omega)
theorem find_any {α:Type} (l:List α) (p:α->Bool):(0<=((l.findIdx? p).elim (-1:Int) (fun i=>(i:Int))))↔l.any p=true:=by
 cases h:l.findIdx? p with
 | none =>
   rw [List.findIdx?_eq_none_iff] at h
   simp
   intro x hx
   simpa using h x hx
 | some i =>
   simp
   obtain ⟨hi,hp,_⟩:=List.findIdx?_eq_some_iff_getElem.1 h
   exact ⟨_,zp6 hi,by simpa using hp⟩
theorem find_elim {α:Type} (l:List α) (p:α->Bool):Sum.elim (fun _:Unit=>some (-1:Int)) (fun v:Int=>some v) ((l.findIdx? p).elim (.inl ()) (fun i => .inr (i:Int)))=some ((l.findIdx? p).elim (-1) (fun i=>(i:Int))):=by
 cases l.findIdx? p <;> rfl
theorem find_le {α:Type} (l:List α) (p:α->Bool):decide (0<=((l.findIdx? p).elim (-1:Int) (fun i=>(i:Int))))=l.any p:=by
 rw [Bool.eq_iff_iff,decide_eq_true_iff];exact find_any l p
theorem any_notB {α:Type} (l:List α) (p:α->Bool):(l.any fun a => !p a) = !l.all p:=by
 induction l with
 | nil=>rfl
 | cons a l ih=>simp [ih]
@[simp] theorem bif_bool (c:Bool):(bif c then true else false)=c:=by cases c <;> rfl
@[simp] theorem bif_notb (c:Bool):(bif c then false else true) = !c:=by cases c <;> rfl
@[simp] theorem bif_and (a b:Bool):(bif a then b else false)=(a&&b):=by cases a <;> rfl
@[simp] theorem bif_or (a b:Bool):(bif a then true else b)=(a||b):=by cases a <;> rfl
@[simp] theorem bif_nand (a b:Bool):(bif a then false else b)=(!a&&b):=by cases a <;> rfl
@[simp] theorem bif_impl (a b:Bool):(bif a then b else true)=(!a||b):=by cases a <;> rfl
@[simp] theorem elim_bif1 {α β γ:Type} (c:Bool) (a:α) (b:β) (f:α->γ) (g:β->γ):Sum.elim f g (bif c then .inl a else .inr b)=bif c then f a else g b:=by cases c <;> rfl
@[simp] theorem elim_bif2 {α β γ:Type} (c:Bool) (a:α) (b:β) (f:α->γ) (g:β->γ):Sum.elim f g (bif c then .inr b else .inl a)=bif c then g b else f a:=by cases c <;> rfl
end Go.Am
