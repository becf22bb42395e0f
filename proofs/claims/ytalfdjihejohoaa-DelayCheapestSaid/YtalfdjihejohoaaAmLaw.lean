/- Own text: AmLaw. -/
import Derived.Test.YtalfdjihejohoaaAmList
import Derived.Test.YtalfdjihejohoaaAmLoop
import Derived.CallsIn
import Derived.Lib.BitFns
set_option linter.unusedSimpArgs false
set_option linter.unusedSectionVars false
namespace Go.Am
open Go
theorem bindS {α β:Type} {o:Option α} {f:α->Option β} {r:β} (h:o.bind f=some r) : ∃ v,o=some v/\f v=some r:=by
 cases o with
 | none=>cases h
 | some v=>exact ⟨v,rfl,h⟩
theorem cT {α:Type} {c:Bool} {x y r:α} (e:c=true) (h:cond c x y=r):x=r:=by subst e;exact h
theorem cF {α:Type} {c:Bool} {x y r:α} (e:c=false) (h:cond c x y=r):y=r:=by subst e;exact h
theorem eL {α β γ:Type} {f:α->γ} {g:β->γ} {v:α} {r:γ} (h:Sum.elim f g (.inl v)=r):f v=r:=h
theorem eR {α β γ:Type} {f:α->γ} {g:β->γ} {v:β} {r:γ} (h:Sum.elim f g (.inr v)=r):g v=r:=h
theorem soI {α:Type} {x y:α} (h:some x=some y):x=y:=Option.some.inj h
structure Cod (τ:Type) where
 un:D->Option τ
 en:τ->D
 ok : ∀ x v,un x=some v->x=en v
 ko : ∀ v,un (en v)=some v
def cI (k:IntKind):Cod Int where
 un | .int k' n=>if k'=k then some n else none
    | _=>none
 en n := .int k n
 ok x v h:=by
  cases x <;> simp at h
  obtain ⟨rfl,rfl⟩:=h;rfl
 ko v:=by simp
def cB:Cod Bool where
 un | .bool b=>some b
    | _=>none
 en b := .bool b
 ok x v h:=by cases x <;> simp at h;subst h;rfl
 ko v:=rfl
def cS:Cod ByteArray where
 un | .str b=>some b
    | _=>none
 en b := .str b
 ok x v h:=by cases x <;> simp at h;subst h;rfl
 ko v:=rfl
def cL (k:Nat):Cod (List D) where
 un | .list k' l=>if k'=k then some l else none
    | _=>none
 en l := .list k l
 ok x v h:=by
  cases x <;> simp at h
  obtain ⟨rfl,rfl⟩:=h;rfl
 ko v:=by simp
structure CodL (τ:Type) where
 un:List D->Option τ
 en:τ->List D
 ok : ∀ x v,un x=some v->x=en v
 ko : ∀ v,un (en v)=some v
def l1 {τ:Type} (c:Cod τ):CodL τ where
 un | [x]=>c.un x
    | _=>none
 en v:=[c.en v]
 ok x v h:=by
  match x,h with
  | [y],h=>rw [c.ok y v h]
 ko v:=c.ko v
def lc {τ ρ:Type} (c:Cod τ) (d:CodL ρ):CodL (τ×ρ) where
 un | x::r=>(c.un x).bind fun a=>(d.un r).map fun b=>(a,b)
    | []=>none
 en v:=c.en v.1::d.en v.2
 ok x v h:=by
  match x,h with
  | y::r,h =>
    obtain ⟨a,h1,h⟩:=bindS h
    simp only [Option.map_eq_some_iff] at h
    obtain ⟨b,h2,rfl⟩:=h
    rw [c.ok y a h1,d.ok r b h2]
 ko v:=by simp [c.ko,d.ko]
def cG {τ:Type} (d:CodL τ):Cod τ where
 un | .agg l=>d.un l
    | _=>none
 en v := .agg (d.en v)
 ok x v h:=by
  cases x <;> simp at h
  rw [d.ok _ v h]
 ko v:=d.ko v
def cA:Cod (List D) where
 un | .agg l=>some l
    | _=>none
 en l := .agg l
 ok x v h:=by
  cases x <;> simp at h
  subst h;rfl
 ko v:=rfl
theorem onN {A:Ar} (hA:A=Ar.std) {l:List D} (h:A.ones l=true):l.all D.isOne=true:=by subst hA;exact h
def gc {τ:Type} (A:Ar) (c:Cod τ) (l:List D) (i:Nat):Option τ:=(A.lget l i).bind c.un
theorem gcI {τ:Type} {A:Ar} {c:Cod τ} {l:List D} {i:Nat} {v:τ} (h:gc A c l i=some v):A.lget l i=some (c.en v):=by
 obtain ⟨x,h1,h2⟩:=bindS h
 rw [h1,c.ok x v h2]
@[irreducible] def fuel:Nat:=1000000
theorem tf (b:Bool):b=true\/b=false:=by cases b <;> simp
theorem lb {a b:Nat} (h:Nat.ble a b=true):a<=b:=Nat.le_of_ble_eq_true h
theorem bindK {α ρ:Type} {o:Option α} {f:α->Option ρ} {r:ρ} (h:o.bind f=some r) : ∃ x,o=some x /\ ∃ K:α->Option ρ,(∀ y,K y=some r->f y=some r)/\K x=some r:=by
 obtain ⟨x,h1,h2⟩:=bindS h
 exact ⟨x,h1,f,fun _ h=>h,h2⟩
open Classical in
noncomputable def both {ρ:Type} (a b:Option ρ):Option ρ:=a.bind fun x=>b.bind fun y=>if x=y then some x else none
def gt {τ:Type} (A:Ar) (c:Cod τ) (l:List D) (i:Int):Option τ:=bif A.zle 0 i then (A.lget l (A.nat i)).bind c.un else none
theorem gtI {τ:Type} {A:Ar} {c:Cod τ} {l:List D} {i:Int} {v:τ} (h:gt A c l i=some v):A.zle 0 i=true/\A.lget l (A.nat i)=some (c.en v):=by
 unfold gt at h
 cases h0:A.zle 0 i with
 | false=>rw [h0] at h;cases h
 | true =>
   rw [h0] at h
   obtain ⟨x,h1,h2⟩:=bindS (cT rfl h)
   exact ⟨rfl,by rw [h1,c.ok x v h2]⟩
def ap (A:Ar) (l m:List D):Option (List D):=bif A.fits (A.zadd (A.len l) (A.len m)) then some (A.app l m) else none
theorem apI {A:Ar} {l m y:List D} (h:ap A l m=some y):A.fits (A.zadd (A.len l) (A.len m))=true/\A.app l m=y:=by
 unfold ap at h
 cases h0:A.fits (A.zadd (A.len l) (A.len m)) <;> simp [h0] at h
 exact ⟨rfl,h⟩
def ck (b:Bool):Option Unit:=bif b then some () else none
theorem ckI {b:Bool} {u:Unit} (h:ck b=some u):b=true:=by cases b <;> first | rfl | cases h
def nk (b:Bool):Option Unit:=bif b then none else some ()
theorem nkI {b:Bool} {u:Unit} (h:nk b=some u):b=false:=by cases b <;> first | rfl | cases h
def lk {τ:Type} (A:Ar) (c:Cod τ) (es:List (D×D)) (k:D):Option (Option τ):=(A.mget es k).elim (some none) (fun d=>(c.un d).map some)
theorem lkN {τ:Type} {A:Ar} {c:Cod τ} {es:List (D×D)} {k:D} (h:lk A c es k=some none):A.mget es k=none:=by
 unfold lk at h
 cases hm:A.mget es k with
 | none=>rfl
 | some d =>
   rw [hm] at h
   simp at h
theorem lkS {τ:Type} {A:Ar} {c:Cod τ} {es:List (D×D)} {k:D} {v:τ} (h:lk A c es k=some (some v)):A.mget es k=some (c.en v):=by
 unfold lk at h
 cases hm:A.mget es k with
 | none=>rw [hm] at h;simp at h
 | some d =>
   rw [hm] at h
   simp at h
   rw [c.ok d v h]
def AV.soft:AV->AV
 | .own k l => .d (.list k l)
 | .lim k l => .d (.list k l)
 | .tail k l => .d (.list k l)
 | v=>v
def AV.loose:AV->AV
 | .own k l => .tail k l
 | v=>v
def softE (sf:List Nat):List (Nat×AV)->List (Nat×AV)
 | []=>[]
 | (t,v)::r=>(t,if sf.contains t then v.soft else if sf.contains (t+1000000) then v.loose else v)::softE sf r
theorem eget_softE (sf:List Nat) : ∀ (e:List (Nat×AV)) (t:Nat),eget (softE sf e) t=if sf.contains t then (eget e t).soft else if sf.contains (t+1000000) then (eget e t).loose else eget e t
 | [],t=>by simp only [softE,eget];split <;> (try split) <;> rfl
 | (s,v)::r,t=>by
   simp only [softE,eget]
   by_cases h:s=t
   ·subst h;simp
   ·simp only [if_neg h];exact eget_softE sf r t
theorem Rel.soft {G:Gh} {σ:St} {a:Act} {w:World} (R:Rel G σ a w) (sf:List Nat):Rel G { σ with env:=softE sf σ.env } a w:=by
 refine ⟨R.h,R.size,fun t => ?_,fun t r off ht => ?_,R.df⟩
 ·have:=R.slots t
  simp only [St.get,eget_softE] at this ⊢
  split
  ·generalize eget σ.env t=c at this
   cases c <;> first | exact this | skip
   ·cases this with | own _ _ _ _ h _=>exact .d _ _ _ h
   ·cases this with | lim _ _ _ _ h _=>exact .d _ _ _ h
   ·cases this with | tail _ _ _ _ h _=>exact .d _ _ _ h
  ·split
   ·generalize eget σ.env t=c at this
    cases c <;> first | exact this | skip
    exact (ownZ_rep (z:=false)).2 ((ownZ_rep (z:=true)).1 this |>.imp id TailZ.weak)
   ·exact this
 ·simp only [St.get,eget_softE] at ht ⊢
  have h1:eget σ.env t = .place r off:=by
   split at ht
   ·generalize eget σ.env t=c at ht
    cases c <;> first | exact ht | (simp [AV.soft] at ht)
   ·split at ht
    ·generalize eget σ.env t=c at ht
     cases c <;> first | exact ht | (simp [AV.loose] at ht)
    ·exact ht
  obtain ⟨cs,h2⟩:=R.places t r off h1
  simp only [St.get] at h2
  rw [h2]
  exact ⟨cs,by split <;> (try split) <;> rfl⟩
def St.fitS (σ:St) (ts sf:List Nat) (k:Nat):St:={ σ with env:=softE sf (keepE σ.env ts),heap:=σ.heap.take k }
theorem Rel.fitS {G:Gh} {σ:St} {a:Act} {w:World} (R:Rel G σ a w) {ts:List Nat} (sf:List Nat) {k:Nat} (h:σ.fits ts k=true):Rel { G with nh:=k } (σ.fitS ts sf k) a w :=
 (R.fit h).soft sf
def AExit.onN (ts sf:List Nat) (k:Nat) (R:St->Prop) (Q:Exit->St->Prop):Exit->St->Prop
 | .normal,σ=>σ.fits ts k=true/\R (σ.fitS ts sf k)
 | e,σ=>Q e σ
def AExit.onX (j:Nat) (ts sf:List Nat) (k:Nat) (R:St->Prop) (Q:Exit->St->Prop):Exit->St->Prop
 | .exit i,σ=>if i=j then σ.fits ts k=true/\R (σ.fitS ts sf k) else Q (.exit i) σ
 | e,σ=>Q e σ
section
variable {P:Program} {m:Nat} {Q:Exit->St->Prop} {σ:St} {c:Code} {R:St->Prop} {ts sf:List Nat} {k:Nat}
theorem AWp.fitR (ts sf:List Nat) (k:Nat) (hm:m<=k) (hf:σ.fits ts k=true) (h:AWp P m c Q (σ.fitS ts sf k)):AWp P m c Q σ:=by
 intro r n G a w hm' R
 refine wpIn_mono (h r n _ a w hm (R.fitS sf hf)) ?_
 rintro e a' w' ⟨σ',G',R',hE,hm'',hQ⟩
 exact ⟨σ',G',R',⟨hE.K,hE.new,hE.others,hE.size,hE.β,hE.io⟩,hm'',hQ⟩
theorem AWp.cutN (ts sf:List Nat) (k:Nat) (hm:m<=k) (R:St->Prop) (h:AWp P m c (AExit.onN ts sf k R Q) σ) (h2 : ∀ τ,R τ->Q .normal τ):AWp P m c Q σ:=by
 intro r n G a w hm' R0
 refine wpIn_mono (h r n G a w hm' R0) ?_
 rintro e a' w' ⟨σ',G',R',hE,hm'',hQ⟩
 cases e with
 | normal=>exact ⟨_,_,R'.fitS sf hQ.1,hE.nh k,hm,h2 _ hQ.2⟩
 | _=>exact ⟨σ',G',R',hE,hm'',hQ⟩
theorem AWp.cutX (j:Nat) (ts sf:List Nat) (k:Nat) (hm:m<=k) (R:St->Prop) (h:AWp P m c (AExit.onX j ts sf k R Q) σ) (h2 : ∀ τ,R τ->Q (.exit j) τ):AWp P m c Q σ:=by
 intro r n G a w hm' R0
 refine wpIn_mono (h r n G a w hm' R0) ?_
 rintro e a' w' ⟨σ',G',R',hE,hm'',hQ⟩
 cases e with
 | exit i =>
   simp only [AExit.onX] at hQ
   split at hQ
   ·rename_i hi;subst hi;exact ⟨_,_,R'.fitS sf hQ.1,hE.nh k,hm,h2 _ hQ.2⟩
   ·exact ⟨σ',G',R',hE,hm'',hQ⟩
 | _=>exact ⟨σ',G',R',hE,hm'',hQ⟩
theorem oNi (h:σ.fits ts k=true/\R (σ.fitS ts sf k)):AExit.onN ts sf k R Q .normal σ:=h
theorem oxI {j:Nat} (h:σ.fits ts k=true/\R (σ.fitS ts sf k)):AExit.onX j ts sf k R Q (.exit j) σ:=by simp only [AExit.onX,if_true];exact h
theorem oxR {j:Nat} (h:Q .ret σ):AExit.onX j ts sf k R Q .ret σ:=h
end
section
variable {S X:Type}
def itN (step:S->Option (S⊕X)):Nat->S->Option X
 | 0,_=>none
 | n+1,s=>(step s).bind (Sum.elim (fun s'=>itN step n s') some)
theorem itN_up {step:S->Option (S⊕X)} : ∀ {n m:Nat} {s:S} {x:X},n<=m->itN step n s=some x->itN step m s=some x
 | 0,_,_,_,_,h=>by cases h
 | n+1,0,_,_,hn,_=>by omega
 | n+1,m+1,s,x,hn,h=>by
   simp only [itN] at h ⊢
   obtain ⟨e,he,h⟩:=bindS h
   rw [he]
   cases e with
   | inl s'=>exact itN_up (n:=n) (by omega) (eL h)
   | inr y=>exact h
open Classical in
noncomputable def iter (step:S->Option (S⊕X)) (s:S):Option X:=if h : ∃ n x,itN step n s=some x then itN step h.choose s else none
theorem iter_of {step:S->Option (S⊕X)} {n:Nat} {s:S} {x:X} (h:itN step n s=some x):iter step s=some x:=by
 have hex : ∃ n x,itN step n s=some x:=⟨n,x,h⟩
 unfold iter
 rw [dif_pos hex]
 obtain ⟨y,hy⟩:=hex.choose_spec
 rw [hy]
 have h1:=itN_up (Nat.le_max_left n hex.choose) h
 have h2:=itN_up (Nat.le_max_right n hex.choose) hy
 rw [h1] at h2
 exact h2.symm
theorem iter_ex {step:S->Option (S⊕X)} {s:S} {x:X} (h:iter step s=some x) : ∃ n,itN step n s=some x:=by
 unfold iter at h
 split at h
 ·exact ⟨_,h⟩
 ·cases h
theorem iter_inl {step:S->Option (S⊕X)} {s s':S} (h:step s=some (.inl s')):iter step s=iter step s':=by
 have key : ∀ x,iter step s=some x↔iter step s'=some x:=by
  intro x
  constructor
  ·intro hx
   obtain ⟨n,hn⟩:=iter_ex hx
   cases n with
   | zero=>cases hn
   | succ n=>simp only [itN,h,Option.bind_some,Sum.elim_inl] at hn;exact iter_of hn
  ·intro hx
   obtain ⟨n,hn⟩:=iter_ex hx
   exact iter_of (n:=n+1) (by simp only [itN,h,Option.bind_some,Sum.elim_inl];exact hn)
 cases e:iter step s with
 | some x=>exact ((key x).1 e).symm
 | none =>
   cases e':iter step s' with
   | none=>rfl
   | some x=>rw [(key x).2 e'] at e;cases e
theorem iter_inr {step:S->Option (S⊕X)} {s:S} {x:X} (h:step s=some (.inr x)):iter step s=some x :=
 iter_of (n:=1) (by simp only [itN,h,Option.bind_some,Sum.elim_inr])
theorem exL {e:S⊕X} {x x':X} {p:Prop} (he:some (Sum.inr x')=some e) (hq:x'=x->p) : ∃ x'',e = .inr x''/\(x''=x->p):=⟨x',(soI he).symm,hq⟩
variable {P:Program} {m:Nat} {Q:Exit->St->Prop} {σ:St} {c:Code}
theorem AWp.iter {step:S->Option (S⊕X)} {s0:S} {x:X} (hx:iter step s0=some x) (ts sf:List Nat) (k:Nat) (hm:m<=k) (F:S->St) (hf:σ.fits ts k=true/\σ.fitS ts sf k=F s0)
  (h : ∀ s e,step s=some e->AWp P m c (AExit.then (fun σ' => ∃ s',e = .inl s'/\σ'.fits ts k=true/\σ'.fitS ts sf k=F s') (fun ex σ' => ∃ x',e = .inr x'/\(x'=x->Q ex σ'))) (F s)):AWp P m (.loop c) Q σ:=by
 obtain ⟨n,hn⟩:=iter_ex hx
 refine AWp.fitR ts sf k hm hf.1 ?_
 rw [hf.2]
 refine AWp.loop (ι:={ i:S×Nat // itN step i.2 i.1=some x }) (fun i=>i.1.2) (fun i=>F i.1.1) ⟨(s0,n),hn⟩ ?_
 rintro ⟨⟨s,n⟩,hi⟩
 cases n with
 | zero=>cases hi
 | succ n =>
   simp only [itN] at hi
   obtain ⟨e,he,hi⟩:=bindS hi
   intro r n' G a w hm' R
   refine wpIn_mono (h s e he r n' G a w hm' R) ?_
   rintro ex a' w' ⟨σ',G',R',hE,hm'',hq⟩
   cases ex with
   | normal =>
     obtain ⟨s',rfl,h1,h2⟩:=hq
     exact ⟨_,_,R'.fitS sf h1,hE.nh k,hm,⟨(s',n),hi⟩,Nat.lt_succ_self _,h2⟩
   | _=>obtain ⟨x',rfl,h1⟩:=hq;exact ⟨σ',G',R',hE,hm'',h1 (soI hi)⟩
end
section
variable {P:Program} {T:Types} {m:Nat} {Q:Exit->St->Prop} {K:St->Prop} {σ σ':St} {ops:Array Oper} {id:Nat} {c:Code} {A:Ar}
theorem nT (h:K σ):AExit.then K Q .normal σ:=h
theorem nB (h:Q .normal σ):AExit.block id Q .normal σ:=h
theorem xT {j:Nat} (h:Q (.exit j) σ):AExit.then K Q (.exit j) σ:=h
theorem xB (h:Q .normal σ):AExit.block id Q (.exit id) σ:=by simp only [AExit.block,if_true];exact h
theorem rT (h:Q .ret σ):AExit.then K Q .ret σ:=h
theorem rB (h:Q .ret σ):AExit.block id Q .ret σ:=h
theorem AWp.rg (hT:TOk P T) (hA:A=Ar.std) (an:Ann) (h:runP A T an ops.toList ops.toList σ = .done σ') (hm:m<=σ.heap.length) (k:Q .normal σ'):AWp P m (.region id ops false) Q σ :=
 AWp.reg1 an hT (fun A' hA'=>by subst hA';subst hA;exact h) hm k
theorem AWp.rd (hT:TOk P T) (hA:A=Ar.std) (an:Ann) (hmix:P.follows .mixedOrders=true) {xs:List Rec} (h:runD A T an ops.toList ops.toList σ [] = .done σ' xs) (hok:okOrder ops.toList (xs.map Rec.foot)=true) (hm:m<=σ.heap.length) (k:Q .normal σ'):AWp P m (.region id ops true) Q σ :=
 AWp.reg1D an hT hmix (fun A' hA'=>by subst hA';subst hA;exact h) hok hm k
variable {l rest:List Oper} {f:FuncId} {args:List AV} {o:Oper} {σ1:St} {H Hr H':List Obj} {r:AV} {d:Nat} {xs xs1:List Rec}
theorem AOps.cc (hT:TOk P T) (hA:A=Ar.std) (an:Ann) (h:runP A T an ops.toList l σ = .call f args o rest σ1)
  (hm:m<=σ.heap.length) (hc:ACall P f args H r H') (hH:σ1.heap=H++Hr) (hr:Hr=[]\/H'.length=H.length) (hin:objsInb H.length H=true) (hargs:inbL H.length args=true) (hd:o.dst=some d) (hlt:d<σ1.n) (hb:(σ1.get d).isBox=false)
  (hfr:args.all AV.free=true) (k:AOps P m ops rest Q { σ1 with env:=eset σ1.env d r,heap:=H'++Hr }):AOps P m ops l Q σ :=
 AOps.stepCall hT (an:=an) (fun A' hA'=>by subst hA';subst hA;exact h) hm hH hr hin hargs hd hlt hb hfr hc k
theorem AOps.cd (hT:TOk P T) (hA:A=Ar.std) (an:Ann) (h:runP A T an ops.toList l σ = .done σ') (hm:m<=σ.heap.length) (hq:Q .normal σ'):AOps P m ops l Q σ :=
 AOps.done hT (an:=an) (fun A' hA'=>by subst hA';subst hA;exact h) hm hq
theorem DOps.c0 (hT:TOk P T) (hA:A=Ar.std) (an:Ann) (hl:l=ops.toList.drop xs.length) (h:runD A T an ops.toList l σ xs = .call f args o rest σ1 xs1)
  (hc:ACall P f args [] r []) (hargs:inbL 0 args=true) (hd:o.dst=some d) (hlt:d<σ1.n) (hb:(σ1.get d).isBox=false) (hfr:args.all AV.free=true)
  (k:DOps P m ops rest (xs1++[{ sets:=[(d,r)],heap:=none,rd:=operSlots ops.toList o,hr:=false,ho:=[],low:=[] }]) K (σ1.upd [(d,r)] none)):DOps P m ops l xs K σ :=
 DOps.stepCall hT (an:=an) hl (fun A' hA'=>by subst hA';subst hA;exact h) hargs hd hlt hb hfr hc k
theorem DOps.cd (hT:TOk P T) (hA:A=Ar.std) (an:Ann) {xs':List Rec} (hl:l=ops.toList.drop xs.length) (h:runD A T an ops.toList l σ xs = .done σ' xs') (hok:okOrder ops.toList (xs'.map Rec.foot)=true) (hq:K σ'):DOps P m ops l xs K σ :=
 DOps.done hT (an:=an) hl (fun A' hA'=>by subst hA';subst hA;exact h) hok hq
theorem AWp.cdT {t:Nat} {x y:Code} {b:Bool} (hc:σ.get t = .d (.bool b)) (hb:b=true) (h:AWp P m x Q σ):AWp P m (.cond (.tmp t) x y) Q σ:=by
 subst hb;exact AWp.cond (b:=true) hc h
theorem AWp.cdF {t:Nat} {x y:Code} {b:Bool} (hc:σ.get t = .d (.bool b)) (hb:b=false) (h:AWp P m y Q σ):AWp P m (.cond (.tmp t) x y) Q σ:=by
 subst hb;exact AWp.cond (b:=false) hc h
end
end Go.Am

set_option linter.unusedVariables false
namespace Go.Am
open Go
end Go.Am

namespace Go.Am
open Go
variable {P:Program} {T:Types} {A:Ar} {m:Nat} {ops:Array Oper} {σ σ1:St} {o:Oper} {i:Nat} {K:St->Prop} {l rest:List Oper} {xs xs1:List Rec}
theorem LStep.callP (ho:ops[i]?=some o) {f:FuncId} {args:List AV} {r:AV} {H rest:List Obj} {d:Nat} (hw:wantA ops.toList σ o=some true) (hcall:callOf T σ o=some (f,args)) (hH:σ.heap=H++rest)
  (hin:objsInb H.length H=true)
  (hargs:inbL H.length args=true) (hd:o.dst=some d) (hlt:d<σ.n) (hb:(σ.get d).isBox=false) (hfr:args.all AV.free=true) (hc:ACall P f args H r H) :
  LStep P m ops i σ { sets:=[(d,r)],heap:=none,rd:=operSlots ops.toList o,hr:=false,ho:=List.range H.length,low:=[] }:=by
 intro τ hrd hhr hho hn hm
 have h:=LStep.callL (m:=m) ho hw hcall hH rfl hin hargs hd hlt hb hfr hc τ hrd hhr hho hn hm
 have e:Rec.app τ { sets:=[(d,r)],heap:=none,rd:=operSlots ops.toList o,hr:=false,ho:=List.range H.length,low:=H }=Rec.app τ { sets:=[(d,r)],heap:=none,rd:=operSlots ops.toList o,hr:=false,ho:=List.range H.length,low:=[] }:=by
  obtain ⟨rest',hheap⟩ : ∃ rest',τ.heap=H++rest':=pre_of_get (fun a ha=>by
   rw [hho a (List.mem_range.2 ha),hH,zp7 ha])
  have:lowOn H τ.heap=τ.heap:=by unfold lowOn;rw [hheap,List.drop_left]
  simp only [Rec.app,St.upd,Option.getD_none,this,lowOn_nil]
 rw [e] at h
 exact h
theorem DOps.cp (hT:TOk P T) (hA:A=Ar.std) (an:Ann) {f:FuncId} {args:List AV} {r:AV} {H Hr:List Obj} {d:Nat} (hl:l=ops.toList.drop xs.length) (h:runD A T an ops.toList l σ xs = .call f args o rest σ1 xs1)
  (hc:ACall P f args H r H) (hH:σ1.heap=H++Hr) (hin:objsInb H.length H=true) (hargs:inbL H.length args=true) (hd:o.dst=some d) (hlt:d<σ1.n) (hb:(σ1.get d).isBox=false) (hfr:args.all AV.free=true)
  (k:DOps P m ops rest (xs1++[{ sets:=[(d,r)],heap:=none,rd:=operSlots ops.toList o,hr:=false,ho:=List.range H.length,low:=[] }]) K (σ1.upd [(d,r)] none)):DOps P m ops l xs K σ :=
 DOps.run (an:=an) hT l xs σ hl (by
  rw [(fun A' (hA':A'=Ar.std)=>by subst hA';subst hA;exact h : ∀ A:Ar,A=Ar.std->runD A T an ops.toList l σ xs = .call f args o rest σ1 xs1) _ rfl]
  exact fun hcall hw ho=>DOps.cons (LStep.callP ho hw hcall hH hin hargs hd hlt hb hfr hc) k)
end Go.Am

namespace Go.Am
open Go
variable {P:Program} {m:Nat} {Q:Exit->St->Prop} {σ:St} {c:Code}
theorem RelH.freezeP {G:Gh} {H:List Obj} {w:World} {c:Loc} (R:RelH G H w) {i k:Nat} {lo n:Int} {l:List D} {v:Value} (hrep:RepV G w c (.mref i k lo n) v) (hi:H[i]?=some (.arr k l)) (hfit:lo+n<=l.length) :
  ∃ G',RelH G' (H.set i .dead) w/\RepD G'.K (.list k (Ar.std.sub l lo (lo+n))) v/\(∀ m,Ext m G w G' w)/\Pres G G' w w (fun x=>x ≠ .o i)/\G'.β=G.β:=by
 cases hrep with | mref _ _ _ _ _ b off cap hnh hlo hn hcap hbo =>
 obtain ⟨vs,e,hO,hw,hu,hsz,h1,hh⟩:=R.objs i _ hi
 have hil:i<H.length:=(zp2.1 hi).1
 have hfl:=flat_length hu
 let B:=G.β (.o i)
 let G':Gh:={ G with K:=fun x=>if x.block=B/\x.spot=none/\x.off<(D.flat l).length then some (vs.getD x.off Go.undef) else G.K x,O:=fun x=>if x=B then none else G.O x }
 have hdisj:=R.disj _ _ _ hO
 have hKle:KLe G.K G'.K:=by
  intro x v h
  simp only [G']
  rw [if_neg];exact h
  rintro ⟨hb,hsp,_⟩
  obtain ⟨xb,xo,xs⟩:=x
  simp at hb hsp;subst hb hsp
  rw [hdisj.2 xo (Nat.zero_le _)] at h;cases h
 have hOold : ∀ b' x f',x ≠ .o i->G.O b'=some (x,f')->G'.O b'=some (x,f'):=by
  intro b' x f' hx h
  have:b'≠B:=by rintro rfl;rw [show G.O B=_ from hO] at h;simp at h;exact hx h.1.symm
  simp only [G'];rw [if_neg this];exact h
 have hpr:Pres G G' w w (fun x=>x ≠ .o i) :=
  ⟨hKle,fun b' x f' hx h=>⟨hOold b' x f' hx h,rfl⟩,fun _ _=>rfl,Nat.le_refl _⟩
 have hkept : ∀ x v,G'.K x=some v->w.cell? x=some v:=by
  intro x v h
  simp only [G'] at h
  split at h
  ·rename_i hc
   obtain ⟨xb,xo,xs⟩:=x
   obtain ⟨h1',h2',h3'⟩:=hc
   simp at h1' h2' h3' h
   subst h1' h2'
   rw [cell_at hw (by omega)]
   simpa using h
  ·exact R.kept x v h
 obtain ⟨LO,rfl⟩:=zp9 hlo
 obtain ⟨N,rfl⟩:=zp9 hn
 have hsubl:Ar.std.sub l LO (LO+N)=(l.drop LO).take N:=by
  simp only [Ar.std]
  congr 1
  all_goals omega
 have hlist':RepD G'.K (.list k ((l.drop LO).take N)) (.slice (some ⟨b,off,none⟩) N cap):=by
  by_cases hN:N=0
  ·subst hN
   simp only [List.take_zero]
   exact RepD.empty _ _ _ _ _
  ·obtain ⟨rfl,rfl⟩:=hbo (by omega)
   simp only [Int.toNat_natCast]
   have hus:=hu.sub LO N
   have hln:((l.drop LO).take N).length=N:=by simp;omega
   have hfe:D.flat ((l.drop LO).take N)=((D.flat l).drop (LO*k)).take (N*k):=by
    rw [flat_take (fun x hx=>hu x (List.mem_of_mem_drop hx)),flat_drop hu]
   have hflN:=flat_length hus
   have hmul:LO*k+N*k<=l.length*k:=by rw [<-Nat.add_mul];exact Nat.mul_le_mul_right _ (by omega)
   have hgetj : ∀ (j:Nat) (hj:j<(D.flat ((l.drop LO).take N)).length),(D.flat ((l.drop LO).take N))[j]=(D.flat l)[LO*k+j]'(by rw [hflN,hln] at hj;omega):=by
    intro j hj
    simp only [hfe,List.getElem_take,List.getElem_drop]
   have:=RepD.list (K:=G'.K) k ((l.drop LO).take N) (G.β (.o i)) (LO*k) cap (fun j=>vs.getD (LO*k+j) Go.undef) hus (by rw [hln];simpa using hcap)
    (fun j hj=>by
     rw [hflN,hln] at hj
     have hjj:LO*k+j<(D.flat l).length:=by omega
     simp [G',B,hjj])
    (fun j hj=>by rw [hflN,hln] at hj;exact h1 _ (by omega))
    (fun j hj=>by
     rw [hgetj j hj]
     rw [hflN,hln] at hj
     exact (hh _ (by omega)).mono hKle)
   rwa [hln] at this
 refine ⟨G',⟨⟨fun b' x f' h => ?_⟩,by simpa [G'] using R.nh,fun i' ob hob => ?_,hkept,fun b' x f' h => ?_⟩,by rw [hsubl];exact hlist',fun m=>⟨hKle,fun x v h => ?_,fun b' hb h=>⟨rfl,?_⟩,Nat.le_refl _,fun _ _=>rfl,rfl,rfl,fun _ _=>rfl,rfl,Nat.le_refl _⟩,hpr,rfl⟩
 ·simp only [G'] at h
  split at h
  ·cases h
  ·exact R.sane.no b' x f' h
 ·by_cases hii:i=i'
  ·subst hii
   simp [List.getElem?_set_self hil] at hob
   subst hob;trivial
  ·rw [List.getElem?_set_ne hii] at hob
   exact (R.objs i' ob hob).pres R.sane (by rw [<-R.nh];exact (zp2.1 hob).1) hpr (by simp;exact fun e=>hii e.symm) (by simp)
 ·simp only [G'] at h ⊢
  split at h
  ·cases h
  ·rename_i hne
   refine ⟨(R.disj b' x f' h).1,fun j hj => ?_⟩
   rw [if_neg (by intro hc;exact hne hc.1)]
   exact (R.disj b' x f' h).2 j hj
 ·simp only [G'] at h
  split at h
  ·rename_i hc;exact .inr (.inl ⟨_,by rw [hc.1];exact hO⟩)
  ·exact .inl h
 ·simp only [G'];split
  ·rfl
  ·exact h
end Go.Am

namespace Go.Am
open Go
def lists1 (l:List D):Bool:=l.all fun x=>match x with | .list _ ys=>scalars ys | _=>false
def loose (l:List D):Bool:=scalars l||lists1 l
section
variable {P:Program} {c x y:Code} {Q:Exit->St->Prop} {σ:St}
end
end Go.Am

namespace Go.Am
open Go
section
variable (x y:Int) (l m:List D)
@[simp] theorem std_zle:Ar.std.zle x y=decide (x<=y):=rfl
@[simp] theorem std_zlt:Ar.std.zlt x y=decide (x<y):=rfl
@[simp] theorem std_zeq:Ar.std.zeq x y=decide (x=y):=rfl
@[simp] theorem std_wrp (k:IntKind):Ar.std.wrp k x=k.wrap x:=rfl
@[simp] theorem std_zadd:Ar.std.zadd x y=x+y:=rfl
@[simp] theorem std_zsub:Ar.std.zsub x y=x-y:=rfl
@[simp] theorem std_zmul:Ar.std.zmul x y=x*y:=rfl
@[simp] theorem std_nat:Ar.std.nat x=x.toNat:=rfl
@[simp] theorem std_len:Ar.std.len l=(l.length:Int):=rfl
@[simp] theorem std_lget (i:Nat):Ar.std.lget l i=l[i]?:=rfl
@[simp] theorem std_fits:Ar.std.fits x=decide (x<4294967296):=rfl
@[simp] theorem std_sub:Ar.std.sub l x y=(l.drop x.toNat).take (y.toNat-x.toNat):=rfl
@[simp] theorem std_app:Ar.std.app l m=l++m:=rfl
@[simp] theorem std_quo (k:IntKind):Ar.std.quo k x y=k.wrap (x.tdiv y):=rfl
@[simp] theorem std_rem:Ar.std.rem x y=x.tmod y:=rfl
@[simp] theorem std_shl (k:IntKind):Ar.std.shl k x y=k.wrap (x*2 ^ (min y.toNat k.bits)):=rfl
@[simp] theorem std_shr (k:IntKind):Ar.std.shr k x y=x.fdiv (2 ^ (min y.toNat k.bits)):=rfl
@[simp] theorem std_bits (op:BinOp) (k:IntKind):Ar.std.bits op k x y=bitsStd op k x y:=rfl
@[simp] theorem std_beq (a b:Bool):Ar.std.beq a b=(a == b):=rfl
@[simp] theorem std_zmin:Ar.std.zmin x y=if y<x then y else x:=rfl
@[simp] theorem std_zmax:Ar.std.zmax x y=if y>x then y else x:=rfl
@[simp] theorem std_mget (es:List (D×D)) (k:D):Ar.std.mget es k=Am.mget es k:=rfl
@[simp] theorem std_mput (es:List (D×D)) (k v:D):Ar.std.mput es k v=Am.mput es k v:=rfl
@[simp] theorem std_midx (es:List (D×D)) (k:D):Ar.std.midx es k=(Am.midx es k:Int):=rfl
@[simp] theorem std_mhas (es:List (D×D)) (z:Int):Ar.std.mhas es z=decide (0<=z/\z<es.length):=rfl
@[simp] theorem std_mset (es:List (D×D)) (z:Int) (v:D):Ar.std.mset es z v=es.modify z.toNat fun p=>(p.1,v):=rfl
@[simp] theorem std_lset (i:Nat) (d:D):Ar.std.lset l i d=l.set i d:=rfl
@[simp] theorem std_rep (d:D):Ar.std.rep x d=List.replicate x.toNat d:=rfl
@[simp] theorem std_ones:Ar.std.ones l=l.all D.isOne:=rfl
@[simp] theorem std_spl:Ar.std.spl l x m=l.take x.toNat++m++l.drop (x.toNat+m.length):=rfl
@[simp] theorem std_fill (d:D):Ar.std.fill l x y d=fillStd l x y d:=rfl
open Classical in
@[simp] theorem std_deq:Ar.std.deq l m=decide (l=m):=rfl
end
theorem i64w (n:Int) (h0 : -9223372036854775808<=n) (h1:n<9223372036854775808):IntKind.i64.wrap n=n:=by
 simp [IntKind.wrap_i64];omega
@[simp] theorem bsome {α β:Type} (a:α) (f:α->Option β):(some a).bind f=f a:=rfl
@[simp] theorem ck_true:ck true=some ():=rfl
@[simp] theorem nk_false:nk false=some ():=rfl
theorem ck_of {b:Bool} (h:b=true):ck b=some ():=by rw [h];rfl
@[simp] theorem cond_some {α:Type} (c:Bool) (a b:α):(bif c then some a else some b)=some (bif c then a else b):=by cases c <;> rfl
@[simp] theorem cI_un (k:IntKind) (n:Int):(cI k).un (.int k n)=some n:=by simp [cI]
@[simp] theorem cB_un (b:Bool):cB.un (.bool b)=some b:=rfl
@[simp] theorem cS_un (b:ByteArray):cS.un (.str b)=some b:=rfl
@[simp] theorem cL_un (k:Nat) (l:List D):(cL k).un (.list k l)=some l:=by simp [cL]
@[simp] theorem cA_un (l:List D):cA.un (.agg l)=some l:=rfl
@[simp] theorem l1_un {τ:Type} (c:Cod τ) (x:D):(l1 c).un [x]=c.un x:=rfl
@[simp] theorem lc_un {τ ρ:Type} (c:Cod τ) (d:CodL ρ) (x:D) (r:List D):(lc c d).un (x::r)=(c.un x).bind fun a=>(d.un r).map fun b=>(a,b):=rfl
@[simp] theorem cG_un {τ:Type} (d:CodL τ) (l:List D):(cG d).un (.agg l)=d.un l:=rfl
theorem ap_map {α:Type} (f:α->D) (l m:List α) (h:(l.length:Int)+m.length<4294967296):ap Ar.std (l.map f) (m.map f)=some ((l++m).map f):=by
 simp [ap,h]
theorem ap_one {α:Type} (f:α->D) (l:List α) (a:α) (d:D) (hd:f a=d) (h:l.length<4294967295):ap Ar.std (l.map f) [d]=some ((l++[a]).map f):=by
 subst hd
 exact ap_map f l [a] (by simp;omega)
section
variable {S X:Type} {step:S->Option (S⊕X)}
end
end Go.Am

namespace Go.Am
open Go
section
variable {α S X:Type}
variable {T:Type} {step:T->Option (T⊕X)}
end
section
variable {α τ:Type}
theorem gt_at {c:Cod τ} {f:α->D} {l:List α} {i:Nat} {a:α} (h:l[i]?=some a):gt Ar.std c (l.map f) (i:Int)=c.un (f a):=by
 simp [gt,h]
theorem gc_at {c:Cod τ} {f:α->D} {l:List α} {i:Nat} {a:α} (h:l[i]?=some a):gc Ar.std c (l.map f) i=c.un (f a):=by
 simp [gc,h]
theorem i64w1 {i n:Nat} (h:i<n) (hn:n<9223372036854775808):IntKind.i64.wrap ((i:Int)+1)=((i+1:Nat):Int):=by
 rw [i64w _ (by omega) (by omega)];omega
end
end Go.Am

namespace Go.Am
open Go
end Go.Am

namespace Go.Am
open Go
section
variable {τ:Type}
def ltF (f:τ->τ->Option Int) (x y:τ):Bool:=match f x y with
 | some r=>decide (r<0)
 | none=>false
structure CmpOk (f:τ->τ->Option Int) (xs:List τ):Prop where
 some : ∀ x∈xs,∀ y∈xs,∃ r,f x y=some r
 irr : ∀ x∈xs,ltF f x x=false
 tr : ∀ x∈xs,∀ y∈xs,∀ z∈xs,ltF f x y=true->ltF f y z=true->ltF f x z=true
 tot : ∀ x∈xs,∀ y∈xs,ltF f x y=false->ltF f y x=false->x=y
theorem Cod.inj (c:Cod τ) {x y:τ} (h:c.en x=c.en y):x=y:=by
 have:=c.ko x
 rw [h,c.ko] at this
 exact (Option.some.inj this).symm
end
end Go.Am

namespace Go.Am
open Go
def enc {τ:Type} (c:Cod τ) (l:List τ):List D:=l.map c.en
section
variable {τ α:Type} {c:Cod τ} {l m:List τ}
@[simp] theorem enc_nil:enc c []=[]:=rfl
@[simp] theorem enc_cons (a:τ):enc c (a::l)=c.en a::enc c l:=rfl
@[simp] theorem enc_length:(enc c l).length=l.length:=by simp [enc]
@[simp] theorem len_enc:Ar.std.len (enc c l)=(l.length:Int):=by simp
end
section
variable {S X α:Type}
theorem iter_rng {step:Int->Option (Int⊕X)} (n:Nat) (p:Nat->Bool) (x y:X)
  (hs : ∀ i,i<n->step (i:Int)=some (bif p i then .inr x else .inl ((i+1:Nat):Int))) (he:step (n:Int)=some (.inr y)):iter step 0=some (bif (List.range n).any p then x else y):=by
 have key : ∀ k i,i+k=n->iter step (i:Int)=some (bif ((List.range' i k).any p) then x else y):=by
  intro k
  induction k with
  | zero=>intro i hi;obtain rfl:i=n:=by omega
          simpa using iter_inr he
  | succ k ih =>
    intro i hi
    have h:=hs i (by omega)
    rw [List.range'_succ,List.any_cons]
    cases hp:p i with
    | true=>rw [hp] at h;simpa using iter_inr h
    | false=>rw [hp] at h;rw [iter_inl h,ih (i+1) (by omega)];rfl
 have:=key n 0 (by omega)
 rw [List.range_eq_range']
 simpa using this
theorem range_any {l:List α} {q:α->Bool} {p:Nat->Bool} (h : ∀ i a,l[i]?=some a->p i=q a):(List.range l.length).any p=l.any q:=by
 rw [Bool.eq_iff_iff]
 simp only [List.any_eq_true,List.mem_range]
 constructor
 ·rintro ⟨i,hi,hp⟩
  exact ⟨l[i],zp6 hi,by rw [<-h i _ (zp1 hi)];exact hp⟩
 ·rintro ⟨a,ha,hq⟩
  obtain ⟨i,hi,rfl⟩:=List.getElem_of_mem ha
  exact ⟨i,hi,by rw [h i _ (zp1 hi)];exact hq⟩
theorem iter_any {step:Int->Option (Int⊕X)} (l:List α) (p:α->Bool) (x y:X)
  (hs : ∀ i a,l[i]?=some a->i<l.length->step (i:Int)=some (bif p a then .inr x else .inl ((i+1:Nat):Int))) (he:step (l.length:Int)=some (.inr y)):iter step 0=some (bif l.any p then x else y):=by
 have:=iter_rng (step:=step) l.length (fun i=>(l[i]?.map p).getD false) x y (fun i hi=>by
  have h:=zp1 hi
  rw [h];exact hs i _ h hi) he
 rw [this,range_any (q:=p) (fun i a h=>by rw [h];rfl)]
theorem iter_find {step:Int->Option (Int⊕X)} (l:List α) (p:α->Bool) (f:Nat->X) (y:X)
  (hs : ∀ i a,l[i]?=some a->i<l.length->step (i:Int)=some (bif p a then .inr (f i) else .inl ((i+1:Nat):Int))) (he:step (l.length:Int)=some (.inr y)):iter step 0=some ((l.findIdx? p).elim y f):=by
 have key : ∀ k i,i+k=l.length->iter step (i:Int)=some (((l.drop i).findIdx? p).elim y (fun j=>f (i+j))):=by
  intro k
  induction k with
  | zero=>intro i hi;obtain rfl:i=l.length:=by omega
          simpa using iter_inr he
  | succ k ih =>
    intro i hi
    have hlt:i<l.length:=by omega
    have h:=hs i _ (zp1 hlt) hlt
    rw [List.drop_eq_getElem_cons hlt,List.findIdx?_cons]
    cases hp:p l[i] with
    | true=>rw [hp] at h;simpa using iter_inr h
    | false =>
      rw [hp] at h;rw [iter_inl h,ih (i+1) (by omega)]
      cases hd:(l.drop (i+1)).findIdx? p with
      | none=>simp
      | some j=>simp;congr 1;omega
 have:=key l.length 0 (by omega)
 simpa using this
end
theorem iter_relE {S T X:Type} {step:T->Option (T⊕X)} (n:Nat) (st:S->Nat->T) (R:Nat->S->Prop) (E:Nat->X->Prop) (fin:S->X)
  (hs : ∀ i s,i<n->R i s->(∃ s',R (i+1) s'/\step (st s i)=some (.inl (st s' (i+1)))) \/ ∃ x,E i x/\step (st s i)=some (.inr x))
  (he : ∀ s,R n s->step (st s n)=some (.inr (fin s))) (s0:S) (h0:R 0 s0):(∃ s,R n s/\iter step (st s0 0)=some (fin s)) \/ ∃ i x,i<n/\E i x/\iter step (st s0 0)=some x:=by
 have key : ∀ k i s,i+k=n->R i s->(∃ s',R n s'/\iter step (st s i)=some (fin s')) \/ ∃ j x,j<n/\E j x/\iter step (st s i)=some x:=by
  intro k
  induction k with
  | zero=>intro i s hi hR;obtain rfl:i=n:=by omega
          exact .inl ⟨s,hR,iter_inr (he s hR)⟩
  | succ k ih =>
    intro i s hi hR
    rcases hs i s (by omega) hR with ⟨s',h1,h2⟩ | ⟨x,h1,h2⟩
    ·rw [iter_inl h2];exact ih (i+1) s' (by omega) h1
    ·exact .inr ⟨i,x,by omega,h1,iter_inr h2⟩
 exact key n 0 s0 (by omega) h0
theorem iter_rel {S T X:Type} {step:T->Option (T⊕X)} (n:Nat) (st:S->Nat->T) (R:Nat->S->Prop) (fin:S->X)
  (hs : ∀ i s,i<n->R i s -> ∃ s',R (i+1) s'/\step (st s i)=some (.inl (st s' (i+1))))
  (he : ∀ s,R n s->step (st s n)=some (.inr (fin s))) (s0:S) (h0:R 0 s0) : ∃ s,R n s/\iter step (st s0 0)=some (fin s):=by
 rcases iter_relE n st R (fun _ _=>False) fin (fun i s hi hR => .inl (hs i s hi hR)) he s0 h0 with h | ⟨_,_,_,h,_⟩
 ·exact h
 ·exact h.elim
theorem take_succ_get {α:Type} {l:List α} {i:Nat} {a:α} (h:l[i]?=some a):l.take (i+1)=l.take i++[a]:=by
 rw [List.take_add_one,h];rfl
theorem iter_pre {α S T X:Type} {step:T->Option (T⊕X)} (l:List α) (F:List α->S) (st:S->Nat->T) (fin:S->X)
  (hs : ∀ i a,l[i]?=some a->i<l.length->step (st (F (l.take i)) i)=some (.inl (st (F (l.take i++[a])) (i+1)))) (he:step (st (F l) l.length)=some (.inr (fin (F l)))) :
  iter step (st (F []) 0)=some (fin (F l)):=by
 obtain ⟨s,rfl,e⟩:=iter_rel l.length st (fun i s=>s=F (l.take i)) fin (fun i s hi hR=>by
  subst hR
  have ha:=zp1 hi
  exact ⟨_,by rw [take_succ_get ha],hs i _ ha hi⟩) (fun s hR=>by subst hR;rw [List.take_length];exact he) (F []) rfl
 rw [List.take_length] at e
 exact e
@[simp] theorem bif_bool (c:Bool):(bif c then true else false)=c:=by cases c <;> rfl
@[simp] theorem bif_notb (c:Bool):(bif c then false else true) = !c:=by cases c <;> rfl
@[simp] theorem bif_and (a b:Bool):(bif a then b else false)=(a&&b):=by cases a <;> rfl
@[simp] theorem bif_or (a b:Bool):(bif a then true else b)=(a||b):=by cases a <;> rfl
@[simp] theorem bif_nand (a b:Bool):(bif a then false else b)=(!a&&b):=by cases a <;> rfl
@[simp] theorem bif_impl (a b:Bool):(bif a then b else true)=(!a||b):=by cases a <;> rfl
@[simp] theorem elim_bif1 {α β γ:Type} (c:Bool) (a:α) (b:β) (f:α->γ) (g:β->γ):Sum.elim f g (bif c then .inl a else .inr b)=bif c then f a else g b:=by cases c <;> rfl
@[simp] theorem elim_bif2 {α β γ:Type} (c:Bool) (a:α) (b:β) (f:α->γ) (g:β->γ):Sum.elim f g (bif c then .inr b else .inl a)=bif c then g b else f a:=by cases c <;> rfl
end Go.Am
