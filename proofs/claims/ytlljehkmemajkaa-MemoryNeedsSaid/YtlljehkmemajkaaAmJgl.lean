import Derived.Test.YtlljehkmemajkaaAmSrt
set_option linter.unusedSimpArgs false
set_option linter.unusedSectionVars false
set_option linter.unusedVariables false
namespace Go.Am
open Go
def b6P (P:Program) (f:FuncId) (args:List AV) (H:List Obj) (r:AV) (H':List Obj):Prop :=
 callable P f=true/\r.isLocal=false/\r.inb H'.length=true/\a0v H'.length H'=true/\H.length<=H'.length /\ ∀ (n:Nat) (G:Gh) (w:World) (vs:Array Value),vs.size=args.length ->
  (∀ (i:Nat) (hi:i<args.length),RepV G w (.o (H.length-1)) args[i] (vs.getD i Go.undef))->RelH G H w->(∀ b ℓ f,G.O b=some (ℓ,f) -> ∃ i,ℓ.root = .o i) ->
  CallsIn (Wd none) n P f vs w (fun e w' => ∃ v G',e = .returned v/\RepV G' w' .ret r v/\RelH G' H' w'/\Ext H.length G w G' w')
def a6f (j:Nat):Nat->List AV->Bool
 | _,[]=>true
 | i,c::r=>(if i=j then (match c with | .own .. => true | _=>false) else c.free)&&a6f j (i+1) r
theorem a6g {j:Nat} : ∀ {l:List AV} {i0:Nat},a6f j i0 l=true -> ∀ (i:Nat) (hi:i<l.length),(i0+i=j -> ∃ k m,l[i] = .own k m)/\(i0+i≠j->l[i].free=true)
 | [],_,_,i,hi=>by simp at hi
 | c::r,i0,h,0,_=>by
   simp only [a6f,zp4] at h;refine ⟨fun e => ?_,fun e => ?_⟩
   ·have:=h.1;rw [if_pos (by simpa using e)] at this;cases c <;> first | exact ⟨_,_,rfl⟩ | cases this
   have:=h.1;rw [if_neg (by simpa using e)] at this;exact this
 | c::r,i0,h,i+1,hi=>by
   simp only [a6f,zp4] at h;have:=a6g h.2 i (by simpa using hi);simpa [Nat.add_assoc,Nat.add_comm 1 i] using this
section
variable {P:Program} {T:a0l}
theorem b6P.enter (hT:TOk P T) {f:FuncId} {fn:Func} {c:Code} {args:List AV} {H0 H H':List Obj} {r:AV} (j:Nat) (hH:H=H0++[.dead]) (hf:P.funcs[f]?=some fn) (hb:fn.body=some c) (hname:fn.name ≠ "runtime.NumGoroutine")
  (hn:args.length<=fn.ntmps) (hfr:a6f j 0 args=true) (hrl:r.isLocal=false) (hri:r.inb H'.length=true) (hin:a0v H'.length H'=true) (hHH:H.length<=H'.length)
  (h:a7p P H.length c (a6M T fn H.length r H') { env:=a5C 0 args,heap:=H,n:=fn.ntmps }):b6P P f args H r H':=by
 refine ⟨by simp [callable,hf,hb,hname],hrl,hri,hin,hHH,fun n G w vs hvs hrep RH hroot => ?_⟩;have hlast:H.length-1=H0.length:=by rw [hH];simp
 rw [hlast] at hrep;have hi0:H0.length<H.length:=by rw [hH];simp
 have hdead:H[H0.length]?=some .dead:=by rw [hH];simp
 have hg:=fun i hi=>a6g (i0:=0) hfr i hi;let G1:=G.move (.o H0.length) (.s j);have hpr:=G.move_pres w (.o H0.length) (.s j);have RH1:RelH G1 H w:=RH.move _ _ (by simp [Loc.root]) (fun i ob hob=>by
  by_cases hi:i=H0.length
  ·subst hi;rw [hdead] at hob;injection hob with hob;subst hob;trivial
  exact (RH.objs i ob hob).pres RH.sane (by rw [<-RH.nh];exact (zp2.1 hob).1) hpr (by simpa using hi) (by simp))
 refine callsIn_of_wp_marks hf hb trivial ?_ rfl;have hsz:(vs++Array.replicate (fn.ntmps-vs.size) Go.undef).size=fn.ntmps:=by simp;omega
 have R:Rel G1 { env:=a5C 0 args,heap:=H,n:=fn.ntmps } { tmps:=vs++Array.replicate (fn.ntmps-vs.size) Go.undef,defers:=[] } w:=by
  refine ⟨RH1,hsz,fun t => ?_,fun t r off ht => ?_,⟨by simp,fun d hd=>by simp at hd⟩⟩
  ·simp only [St.get,a2C];split
   ·rename_i ht;simp at ht;have h0:=hrep t (by omega);have key:RepV G1 w (.s t) args[t] (vs.getD t Go.undef):=by
     by_cases htj:t=j
     ·subst htj;obtain ⟨k,m,e⟩:=(hg t (by omega)).1 (by omega);rw [e] at h0 ⊢;cases h0 with | own _ _ _ _ hr ht=>exact .own _ _ _ _ hr ht.move
     have hfree:=(hg t (by omega)).2 (by omega);refine ((h0.anywhere hfree .no).pres RH.sane (hpr.no RH.sane) rfl (fun r off e => ?_) (fun t e=>by cases e)).anywhere hfree _;rw [e] at hfree;simp [AV.free] at hfree
    simpa [List.getD,show t<args.length by omega,zp5,Array.getElem?_append_left (show t<vs.size by omega)] using key
   exact .undef _ _
  simp only [St.get,a2C] at ht;split at ht
  ·rename_i hlt;simp at hlt;simp [List.getD,show t<args.length by omega] at ht;by_cases htj:t=j
   ·obtain ⟨k,m,e⟩:=(hg t (by omega)).1 (by omega);rw [e] at ht;cases ht
   have hfree:=(hg t (by omega)).2 (by omega);rw [ht] at hfree;simp [AV.free] at hfree
  cases ht
 refine wpIn_mono (h n G1 _ w (by rw [show G1.nh=G.nh from rfl,<-RH.nh];exact Nat.le_refl _) R) ?_;intro e a' w' hp;have hp':=hp.ext (Ext.move H.length G w (.o H0.length) (.s j));obtain ⟨he,hl⟩:=a0h.leaveP (n:=n) hT hrl hri hin hp';rcases he with rfl | rfl
 ·exact hl
 exact hl
theorem a6h (hT:TOk P T) {σ:St} {o:Oper} {f:FuncId} {args:List AV} {xs:Array Operand} {ts:Array TypeId} (hop:o.op = .call { callee := .value (.func f),args:=xs,argTypes:=ts }) (h:a1R T σ o=some (f,args)) (hc:callable P f=true) {G:Gh} {a:Act} {w:World} (R:Rel G σ a w) :
  (∀ c,o.op ≠ .defer c)/\(execOp a.eval o).run P w = .ok (.enter f (xs.map a.eval)) w/\(xs.map a.eval).size=args.length /\ ∀ (i:Nat) (hi:i<args.length),RepV G w .no args[i] ((xs.map a.eval).getD i Go.undef):=by
 obtain ⟨h1,vs,h2,h3,h4⟩:=a3X hT h hc R;have hrun:(execOp a.eval o).run P w = .ok (.enter f (xs.map a.eval)) w:=by
  have hcall:(callFunc f (xs.map a.eval)).run P w = .ok (.enter f (xs.map a.eval)) w:=by
   unfold callable at hc;unfold callFunc;simp only [Sem.run_bind,run_program,Result.andThen_ok];split at hc
   ·rename_i fn hfn';simp at hc;rw [hfn'];simp [hc.1,Option.isSome_iff_ne_none.1 hc.2]
   cases hc
  have hx:a.eval (.func f) = .func (.func f) #[] #[]:=rfl;simp only [execOp,hop,Sem.run_bind,resolve,hx,Deferred.ofValue,Sem.run_pure,Result.andThen_ok,invoke];simpa using hcall
 have he:vs=xs.map a.eval:=by
  rw [hrun] at h2;injection h2 with h2
  injection h2 with _ h2
  exact h2.symm
 subst he;exact ⟨h1,hrun,h3,h4⟩
variable {m:Nat} {Q:Exit->St->Prop} {σ:St} {ops:Array Oper} {o:Oper} {l:List Oper}
end
def Wk (m:Nat) (σ σ':St):Prop := ∀ (G:Gh) (a:Act) (w:World),m<=G.nh->Rel G σ a w -> ∃ G',Rel G' σ' a w/\Ext m G w G' w/\m<=G'.nh
section
variable {P:Program} {m:Nat} {Q:Exit->St->Prop} {σ σ':St} {c:Code} {ops:Array Oper} {l:List Oper}
theorem AWp.weak (h:Wk m σ σ') (k:AWp P m c Q σ'):AWp P m c Q σ:=by
 intro r n G a w hm R;obtain ⟨G',R',hE,hm'⟩:=h G a w hm R;exact wpIn_mono (k r n G' a w hm' R') (fun e a w hp=>hp.ext hE)
theorem a1h.weak (h:Wk m σ σ') (k:a1h P m ops l Q σ'):a1h P m ops l Q σ:=by
 intro r n G a w Q' hm R hQ;obtain ⟨G',R',hE,hm'⟩:=h G a w hm R;exact k r n G' a w Q' hm' R' (fun e a w hp=>hQ _ _ _ (hp.ext hE))
theorem Wk.refl:Wk m σ σ:=fun G _ _ hm R=>⟨G,R,Ext.refl _ _ _,hm⟩
theorem Wk.trans {σ'':St} (h:Wk m σ σ') (h':Wk m σ' σ''):Wk m σ σ'':=by
 intro G a w hm R;obtain ⟨G1,R1,hE1,hm1⟩:=h G a w hm R;obtain ⟨G2,R2,hE2,hm2⟩:=h' G1 a w hm1 R1;exact ⟨G2,R2,hE1.trans hE2,hm2⟩
end
def Loc.ren (f:Nat->Option Nat):Loc->Option Loc
 | .o i=>(f i).map .o
 | .oc i j=>(f i).map (.oc · j)
 | x=>some x
mutual
def AV.ren (f:Nat->Option Nat):AV->Option AV
 | .ptr a off=>match f a with | some x=>some (.ptr x off) | none=>none
 | .map a=>match f a with | some x=>some (.map x) | none=>none
 | .mref a k lo n=>match f a with | some x=>some (.mref x k lo n) | none=>none
 | .mcap a k lo n c=>match f a with | some x=>some (.mcap x k lo n c) | none=>none
 | .eptr a k i j=>match f a with | some x=>some (.eptr x k i j) | none=>none
 | .vptr a k i j m z=>match f a with | some x=>some (.vptr x k i j m z) | none=>none
 | .yield a=>match f a with | some x=>some (.yield x) | none=>none
 | .gref a k=>match f a,f (a+1),f (a+2) with
   | some x,some y,some z=>if y=x+1/\z=x+2 then some (.gref x k) else none
   | _,_,_=>none
 | .func fn as bs=>match b4D f as,b4D f bs with | some a,some b=>some (.func fn a b) | _,_=>none
 | .agg cs=>match b4D f cs with | some a=>some (.agg a) | none=>none
 | .tuple cs=>match b4D f cs with | some a=>some (.tuple a) | none=>none
 | .lbox cs=>match b4D f cs with | some a=>some (.lbox a) | none=>none
 | x=>some x
def b4D (f:Nat->Option Nat):List AV->Option (List AV)
 | []=>some []
 | c::r=>match c.ren f,b4D f r with | some x,some y=>some (x::y) | _,_=>none
end
theorem a2s {f:Nat->Option Nat} : ∀ {cs cs':List AV},b4D f cs=some cs'->cs'.length=cs.length /\ ∀ (i:Nat) (hi:i<cs.length) (hi':i<cs'.length),cs[i].ren f=some cs'[i]
 | [],cs',h=>by simp [b4D] at h;subst h;exact ⟨rfl,fun i hi=>by simp at hi⟩
 | c::r,cs',h=>by
   simp only [b4D] at h;split at h
   ·rename_i x y h1 h2;cases h;obtain ⟨h3,h4⟩:=a2s h2;refine ⟨by simp [h3],fun i hi hi' => ?_⟩;cases i with
    | zero=>simpa using h1
    | succ i=>simpa using h4 i (by simpa using hi) (by simpa using hi')
   cases h
theorem AV.ren_isCell {f:Nat->Option Nat} {c c':AV} (h:c.ren f=some c'):c'.isCell=c.isCell:=by
 cases c <;> simp only [AV.ren] at h
 all_goals (repeat' split at h)
 all_goals first
  | (cases h;rfl)
  | (cases h;simp_all [AV.isCell];done)
  | (simp_all;done)
theorem AV.ren_isLocal {f:Nat->Option Nat} {c c':AV} (h:c.ren f=some c'):c'.isLocal=c.isLocal:=by
 cases c <;> simp only [AV.ren] at h
 all_goals (repeat' split at h)
 all_goals first
  | (cases h;rfl)
  | (simp_all;done)
theorem AV.ren_frl {f:Nat->Option Nat} {c c':AV} (h:c.ren f=some c'):c'.frl=c.frl:=by
 cases c <;> simp only [AV.ren] at h
 all_goals (repeat' split at h)
 all_goals first
  | (cases h;rfl)
  | (simp_all;done)
theorem AV.ren_free {f:Nat->Option Nat} {c c':AV} (h:c.ren f=some c'):c'.free=c.free:=by
 cases c <;> simp only [AV.ren] at h
 all_goals (repeat' split at h)
 all_goals first
  | (cases h;rfl)
  | (simp_all;done)
structure Rn (f:Nat->Option Nat) (G G':Gh) (w w':World):Prop where
 K:KLe G.K G'.K
 O : ∀ (b:Nat) (ℓ ℓ':Loc) (q:Nat),ℓ.ren f=some ℓ'->G.O b=some (ℓ,q)->G'.O b=some (ℓ',q)/\w'.heap[b]?=w.heap[b]?
 β : ∀ a a',f a=some a'->a<G.nh->G'.β (.o a')=G.β (.o a)/\a'<G'.nh
 βs : ∀ t,G'.β (.s t)=G.β (.s t)
theorem b1Z.ren {f:Nat->Option Nat} {G G':Gh} {w w':World} (hp:Rn f G G' w w') {ℓ ℓ':Loc} (hl:ℓ.ren f=some ℓ') {k:Nat} {v:Value} (ht:b1Z G w ℓ k v):b1Z G' w' ℓ' k v:=by
 intro a n cap hv hn;obtain ⟨fr,c,e,h1,h2,h3,h4⟩:=ht a n cap hv hn;obtain ⟨h5,h6⟩:=hp.O _ _ _ _ hl h1;exact ⟨fr,c,e,h5,h2,h6.trans h3,h4⟩
theorem a3G.ren {z:Bool} {f:Nat->Option Nat} {G G':Gh} {w w':World} (hp:Rn f G G' w w') {ℓ ℓ':Loc} (hl:ℓ.ren f=some ℓ') {k:Nat} {v:Value} (ht:a3G z G w ℓ k v):a3G z G' w' ℓ' k v:=by
 intro a n cap hv hn;obtain ⟨fr,c,e,h1,h2,h3,h4⟩:=ht a n cap hv hn;obtain ⟨h5,h6⟩:=hp.O _ _ _ _ hl h1;exact ⟨fr,c,e,h5,h2,h6.trans h3,h4⟩
theorem RepV.ren {f:Nat->Option Nat} {G G':Gh} {w w':World} {ℓ:Loc} {av:AV} {v:Value} (h:RepV G w ℓ av v) :
  ∀ {av':AV} {ℓ':Loc},Rn f G G' w w'->av.ren f=some av'->ℓ.ren f=some ℓ'->RepV G' w' ℓ' av' v:=by
 induction h with
 | undef ℓ v=>intro av' ℓ' hp he hl;simp [AV.ren] at he;subst he;exact .undef _ v
 | abool ℓ b=>intro av' ℓ' hp he hl;simp [AV.ren] at he;subst he;exact .abool _ b
 | d ℓ x v h=>intro av' ℓ' hp he hl;simp [AV.ren] at he;subst he;exact .d _ x v (h.mono hp.K)
 | ptr ℓ a off ha =>
   intro av' ℓ' hp he hl;simp only [AV.ren] at he;split at he
   ·rename_i x hx;cases he;obtain ⟨h1,h2⟩:=hp.β _ _ hx ha;rw [<-h1];exact .ptr _ _ _ h2
   cases he
 | nilptr ℓ=>intro av' ℓ' hp he hl;simp [AV.ren] at he;subst he;exact .nilptr _
 | iptr ℓ cs b off vs hK h1 h=>intro av' ℓ' hp he hl;simp [AV.ren] at he;subst he;exact .iptr _ cs b off vs (fun j hj=>hp.K _ _ (hK j hj)) h1 (fun j hj=>(h j hj).mono hp.K)
 | own ℓ k l v h ht=>intro av' ℓ' hp he hl;simp [AV.ren] at he;subst he;exact .own _ k l v (h.mono hp.K) (ht.ren hp hl)
 | lim ℓ k l v h ht=>intro av' ℓ' hp he hl;simp [AV.ren] at he;subst he;exact .lim _ k l v (h.mono hp.K) ht
 | tail ℓ k l v h ht=>intro av' ℓ' hp he hl;simp [AV.ren] at he;subst he;exact .tail _ k l v (h.mono hp.K) (ht.ren hp hl)
 | fresh ℓ k l v h=>intro av' ℓ' hp he hl;simp [AV.ren] at he;subst he;exact .fresh _ k l v (h.mono hp.K (fun b hO=>hp.O b _ _ 0 hl hO))
 | junk ℓ v h=>intro av' ℓ' hp he hl;simp [AV.ren] at he;subst he;exact .junk _ v h
 | func ℓ fn as bs va vb ha hb _ _ hc hc' ih ih' =>
   intro av' ℓ' hp he hl;simp only [AV.ren] at he;split at he
   ·rename_i a' b' h1 h2;cases he;obtain ⟨l1,g1⟩:=a2s h1;obtain ⟨l2,g2⟩:=a2s h2;refine .func _ fn a' b' va vb (by rw [l1];exact ha) (by rw [l2];exact hb) (fun i hi=>ih i (by omega) hp (g1 i (by omega) hi) rfl) (fun i hi=>ih' i (by omega) hp (g2 i (by omega) hi) rfl) (fun c hc0 => ?_) (fun c hc0 => ?_)
    ·obtain ⟨i,hi,rfl⟩:=List.mem_iff_getElem.1 hc0;rw [AV.ren_isLocal (g1 i (by omega) hi)];exact hc _ (zp6 _)
    obtain ⟨i,hi,rfl⟩:=List.mem_iff_getElem.1 hc0;rw [AV.ren_isLocal (g2 i (by omega) hi)];exact hc' _ (zp6 _)
   cases he
 | nilfunc ℓ=>intro av' ℓ' hp he hl;simp [AV.ren] at he;subst he;exact .nilfunc _
 | yield ℓ l hh =>
   intro av' ℓ' hp he hl;simp only [AV.ren] at he;split at he
   ·rename_i x hx;cases he;obtain ⟨h1,h2⟩:=hp.β _ _ hx hh;rw [<-h1];exact .yield _ _ h2
   cases he
 | map ℓ a ha =>
   intro av' ℓ' hp he hl;simp only [AV.ren] at he;split at he
   ·rename_i x hx;cases he;obtain ⟨h1,h2⟩:=hp.β _ _ hx ha;rw [<-h1];exact .map _ _ h2
   cases he
 | nilmap ℓ=>intro av' ℓ' hp he hl;simp [AV.ren] at he;subst he;exact .nilmap _
 | lbox t cs vs e hO hw hs _ hc ih =>
   intro av' ℓ' hp he hl;simp only [AV.ren] at he;split at he
   ·rename_i a' h1;cases he;simp [Loc.ren] at hl;subst hl;obtain ⟨l1,g1⟩:=a2s h1;obtain ⟨h3,h4⟩:=hp.O _ _ (.s t) _ rfl hO;rw [<-hp.βs t] at h3 h4 hw ⊢;refine .lbox t a' vs e h3 (h4.trans hw) (by rw [l1];exact hs) (fun j hj=>ih j (by omega) hp (g1 j (by omega) hj) rfl) (fun c hc0 => ?_);obtain ⟨i,hi,rfl⟩:=List.mem_iff_getElem.1 hc0;rw [AV.ren_isCell (g1 i (by omega) hi)];exact hc _ (zp6 _)
   cases he
 | place ℓ r off=>intro av' ℓ' hp he hl;simp [AV.ren] at he;subst he;rw [<-hp.βs r];exact .place _ r off
 | mref ℓ a k lo n b off cap ha h1 h2 h3 h4 =>
   intro av' ℓ' hp he hl;simp only [AV.ren] at he;split at he
   ·rename_i x hx;cases he;obtain ⟨q1,q2⟩:=hp.β _ _ hx ha;exact .mref _ _ k lo n b off cap q2 h1 h2 h3 (fun h=>by rw [q1];exact h4 h)
   cases he
 | mcap ℓ a k lo n c b off cap ha h1 h2 h3 h4 h5 =>
   intro av' ℓ' hp he hl;simp only [AV.ren] at he;split at he
   ·rename_i x hx;cases he;obtain ⟨q1,q2⟩:=hp.β _ _ hx ha;exact .mcap _ _ k lo n c b off cap q2 h1 h2 h3 h4 (fun h=>by rw [q1];exact h5 h)
   cases he
 | gref ℓ a k p ha hc hq =>
   intro av' ℓ' hp he hl;simp only [AV.ren] at he;split at he
   ·rename_i x y z hx hy hz;split at he
    ·rename_i hxy;obtain ⟨rfl,rfl⟩:=hxy;cases he;obtain ⟨q1,q2⟩:=hp.β _ _ hx (by omega);obtain ⟨q3,q4⟩:=hp.β _ _ hy (by omega);obtain ⟨q5,q6⟩:=hp.β _ _ hz ha;rw [<-q3,<-q5];exact .gref _ x k p q6 (by rw [q3,q5];exact hc) (by rw [q3,q1];exact hq)
    cases he
   cases he
 | eptr ℓ a k i j ha hi =>
   intro av' ℓ' hp he hl;simp only [AV.ren] at he;split at he
   ·rename_i x hx;cases he;obtain ⟨h1,h2⟩:=hp.β _ _ hx ha;rw [<-h1];exact .eptr _ _ k i j h2 hi
   cases he
 | vptr ℓ a k i j m z ha hi hz hm =>
   intro av' ℓ' hp he hl;simp only [AV.ren] at he;split at he
   ·rename_i x hx;cases he;obtain ⟨h1,h2⟩:=hp.β _ _ hx ha;rw [<-h1];exact .vptr _ _ k i j m z h2 hi hz hm
   cases he
 | agg ℓ cs vs hs _ hc hf ih =>
   intro av' ℓ' hp he hl;simp only [AV.ren] at he;split at he
   ·rename_i a' h1;cases he;obtain ⟨l1,g1⟩:=a2s h1;refine .agg _ a' vs (by rw [l1];exact hs) (fun i hi=>ih i (by omega) hp (g1 i (by omega) hi) rfl) (fun c hc0 => ?_) (fun c hc0 => ?_)
    ·obtain ⟨i,hi,rfl⟩:=List.mem_iff_getElem.1 hc0;rw [AV.ren_isCell (g1 i (by omega) hi)];exact hc _ (zp6 _)
    obtain ⟨i,hi,rfl⟩:=List.mem_iff_getElem.1 hc0;rw [AV.ren_frl (g1 i (by omega) hi)];exact hf _ (zp6 _)
   cases he
 | tuple ℓ cs vs hs _ hc ih =>
   intro av' ℓ' hp he hl;simp only [AV.ren] at he;split at he
   ·rename_i a' h1;cases he;obtain ⟨l1,g1⟩:=a2s h1;refine .tuple _ a' vs (by rw [l1];exact hs) (fun i hi=>ih i (by omega) hp (g1 i (by omega) hi) rfl) (fun c hc0 => ?_);obtain ⟨i,hi,rfl⟩:=List.mem_iff_getElem.1 hc0;rw [AV.ren_isLocal (g1 i (by omega) hi)];exact hc _ (zp6 _)
   cases he
def Obj.ren (f:Nat->Option Nat) (i j:Nat):Obj->Option Obj
 | .cells cs=>match b4D f cs with | some a=>some (.cells a) | none=>none
 | .loop _=>none
 | .gro k l=>match f (i+1),f (i+2) with
   | some y,some z=>if y=j+1/\z=j+2 then some (.gro k l) else none
   | _,_=>none
 | .jag k l o=>match f (i+1),f (i+2) with
   | some y,some z=>if y=j+1/\z=j+2 then
     match o with
     | none=>some (.jag k l none)
     | some (t,x)=>match x.ren f with | some x'=>some (.jag k l (some (t,x'))) | none=>none
     else none
   | _,_=>none
 | x=>some x
theorem a1H.ren {f:Nat->Option Nat} {G G':Gh} {w w':World} {i j:Nat} {ob ob':Obj} (h:a1H G w i ob) (hi:i<G.nh) (hp:Rn f G G' w w') (hf:f i=some j) (hr:ob.ren f i j=some ob'):a1H G' w' j ob':=by
 obtain ⟨hβ,hj⟩:=hp.β _ _ hf hi;have hO : ∀ b q,G.O b=some (.o i,q)->G'.O b=some (.o j,q)/\w'.heap[b]?=w.heap[b]?:=fun b q h=>hp.O b _ _ q (by simp [Loc.ren,hf]) h;cases ob with
 | cells cs =>
   simp only [Obj.ren] at hr;split at hr
   ·rename_i a' h0;cases hr;obtain ⟨l1,g1⟩:=a2s h0;obtain ⟨vs,e,h1,h2,h3,h4,h5⟩:=h;obtain ⟨h6,h7⟩:=hO _ _ h1;rw [<-hβ] at h2 h6 h7;refine ⟨vs,e,h6,h7.trans h2,by rw [l1];exact h3,fun q hq=>(h4 q (by omega)).ren hp (g1 q (by omega) hq) (by simp [Loc.ren,hf]),fun c hc0 => ?_⟩;obtain ⟨q,hq,rfl⟩:=List.mem_iff_getElem.1 hc0;rw [AV.ren_isCell (g1 q (by omega) hq)];exact h5 _ (zp6 _)
   cases hr
 | arr k l =>
   simp only [Obj.ren] at hr;cases hr;obtain ⟨vs,e,h1,h2,h3,h4,h8,h5⟩:=h;obtain ⟨h6,h7⟩:=hO _ _ h1;rw [<-hβ] at h2 h6 h7;exact ⟨vs,e,h6,h7.trans h2,h3,h4,h8,fun j hj=>(h5 j hj).mono hp.K⟩
 | map agg ks es =>
   simp only [Obj.ren] at hr;cases hr;obtain ⟨ms,clock,h1,h2,h3⟩:=h;obtain ⟨h6,h7⟩:=hO _ _ h1;rw [<-hβ] at h2 h6 h7;exact ⟨ms,clock,h6,h7.trans h2,h3.1.mono hp.K,h3.2⟩
 | loop L=>simp [Obj.ren] at hr
 | gro k l =>
   simp only [Obj.ren] at hr;split at hr
   ·rename_i y z hy hz;split at hr
    ·rename_i hyz;obtain ⟨rfl,rfl⟩:=hyz;cases hr;obtain ⟨g0,g1,g2,g3,g4⟩:=h;obtain ⟨b1,_⟩:=hp.β _ _ hy (by omega);obtain ⟨b2,c2⟩:=hp.β _ _ hz g0;refine ⟨c2,by rw [b2];exact g1,by rw [b1];exact g2,g3,fun hc => ?_⟩;rw [b1] at hc;obtain ⟨vs,e,h1,h2,h3,h8,h5⟩:=g4 hc;obtain ⟨h6,h7⟩:=hO _ _ h1;rw [<-hβ] at h2 h6 h7;exact ⟨vs,e,h6,h7.trans h2,by rw [b1];exact h3,h8,fun j hj=>(h5 j hj).mono hp.K⟩
    cases hr
   cases hr
 | jag k l o =>
   simp only [Obj.ren] at hr;split at hr
   ·rename_i y z hy hz;split at hr
    ·rename_i hyz;obtain ⟨rfl,rfl⟩:=hyz;obtain ⟨g0,g1,g2,g3,go,g4⟩:=h;obtain ⟨b1,_⟩:=hp.β _ _ hy (by omega);obtain ⟨b2,c2⟩:=hp.β _ _ hz g0;have key : ∀ o',(∀ p,o'=some p->p.2.isCell=true/\p.2.free=true)->(∀ (j:Nat) (x:D) (l':List D),x = .list k l'->(a2y k o j x).ren f=some (a2y k o' j x))->ob' = .jag k l o'->a1H G' w' j ob':=by
      rintro o' ho' hent rfl;refine ⟨c2,by rw [b2];exact g1,by rw [b1];exact g2,g3,ho',fun hc => ?_⟩;rw [b1] at hc;obtain ⟨vs,e,h1,h2,h3,h5⟩:=g4 hc;obtain ⟨h6,h7⟩:=hO _ _ h1;rw [<-hβ] at h2 h6 h7;refine ⟨vs,e,h6,h7.trans h2,by rw [b1];exact h3,fun q hq => ?_⟩;obtain ⟨l',hx⟩:=g3 _ (zp6 hq);exact (h5 q hq).ren hp (hent q _ _ hx) (by simp [Loc.ren,hf])
     split at hr
     ·cases hr;refine key none (fun p e=>by cases e) (fun j x l' hx => ?_) rfl;subst hx;simp [a2y,frA,AV.ren]
     rename_i t x;split at hr
     ·rename_i x' hx';cases hr;refine key (some (t,x')) (fun p e => ?_) (fun j y l' hy => ?_) rfl
      ·cases e;have:=go _ rfl;exact ⟨by rw [AV.ren_isCell hx'];exact this.1,by rw [AV.ren_free hx'];exact this.2⟩
      subst hy;simp only [a2y];split
      ·exact hx'
      simp [frA,AV.ren]
     cases hr
    cases hr
   cases hr
 | dead=>simp only [Obj.ren] at hr;cases hr;trivial
def a2X:List (Option Nat)->Nat->Nat->Option Nat
 | [],_,_=>none
 | some a::r,j,i=>if a=i then some j else a2X r (j+1) i
 | none::r,j,i=>a2X r (j+1) i
theorem a2M : ∀ {sel:List (Option Nat)} {j i x:Nat},a2X sel j i=some x->j<=x/\sel[x-j]?=some (some i)
 | some a::r,j,i,x,h=>by
   simp only [a2X] at h;split at h
   ·rename_i e;subst e;cases h;simp
   obtain ⟨h1,h2⟩:=a2M h;refine ⟨by omega,?_⟩;rw [show x-j=(x-(j+1))+1 by omega];simpa using h2
 | none::r,j,i,x,h=>by
   simp only [a2X] at h;obtain ⟨h1,h2⟩:=a2M h;refine ⟨by omega,?_⟩;rw [show x-j=(x-(j+1))+1 by omega];simpa using h2
def b2b (f:Nat->Option Nat) (H:List Obj):List (Option Nat)->Nat->Option (List Obj)
 | [],_=>some []
 | none::r,j=>match b2b f H r (j+1) with | some x=>some (.dead::x) | none=>none
 | some i::r,j=>match H[i]?,f i with
   | some ob,some j'=>if j'=j then match ob.ren f i j,b2b f H r (j+1) with | some o,some x=>some (o::x) | _,_=>none else none
   | _,_=>none
theorem a5l {f:Nat->Option Nat} {H:List Obj} : ∀ {sel:List (Option Nat)} {j0:Nat} {H':List Obj},b2b f H sel j0=some H'->H'.length=sel.length /\
  ∀ (j:Nat) (ob':Obj),H'[j]?=some ob'->ob' = .dead \/ ∃ i ob,sel[j]?=some (some i)/\H[i]?=some ob/\f i=some (j0+j)/\ob.ren f i (j0+j)=some ob'
 | [],j0,H',h=>by simp [b2b] at h;subst h;exact ⟨rfl,fun j ob' e=>by simp at e⟩
 | none::r,j0,H',h=>by
   simp only [b2b] at h;split at h
   ·rename_i x hx;cases h;obtain ⟨h1,h2⟩:=a5l hx;refine ⟨by simp [h1],fun j ob' e => ?_⟩;cases j with
    | zero=>simp at e;exact .inl e.symm
    | succ j =>
      rcases h2 j ob' (by simpa using e) with h | ⟨i,ob,a1,a2,a3,a4⟩
      ·exact .inl h
      exact .inr ⟨i,ob,by simpa using a1,a2,by rw [a3];congr 1;omega,by rw [<-a4];congr 1;omega⟩
   cases h
 | some i::r,j0,H',h=>by
   simp only [b2b] at h;split at h
   ·rename_i ob j' hob hj';split at h
    ·rename_i hjj;subst hjj;split at h
     ·rename_i o x ho hx;cases h;obtain ⟨h1,h2⟩:=a5l hx;refine ⟨by simp [h1],fun j ob' e => ?_⟩;cases j with
      | zero=>simp at e;subst e;exact .inr ⟨i,ob,rfl,hob,hj',ho⟩
      | succ j =>
        rcases h2 j ob' (by simpa using e) with h | ⟨i,ob,a1,a2,a3,a4⟩
        ·exact .inl h
        exact .inr ⟨i,ob,by simpa using a1,a2,by rw [a3];congr 1;omega,by rw [<-a4];congr 1;omega⟩
     cases h
    cases h
   cases h
def b8M (f:Nat->Option Nat) (e:List (Nat×AV)):List Nat->Option (List (Nat×AV))
 | []=>some []
 | t::r=>match (a1S e t).noPlace.ren f,b8M f e r with | some v,some x=>some ((t,v)::x) | _,_=>none
theorem a7X {f:Nat->Option Nat} {e:List (Nat×AV)} : ∀ {ts:List Nat} {e':List (Nat×AV)},b8M f e ts=some e' -> ∀ t,a1S e' t = .undef\/(a1S e t).noPlace.ren f=some (a1S e' t)
 | [],e',h,t=>by simp [b8M] at h;subst h;exact .inl rfl
 | s::r,e',h,t=>by
   simp only [b8M] at h;split at h
   ·rename_i v x h1 h2;cases h;simp only [a1S];split
    ·rename_i hst;subst hst;exact .inr h1
    exact a7X h2 t
   cases h
def St.ren (σ:St) (sel:List (Option Nat)) (ts:List Nat):Option St :=
 match b8M (a2X sel 0) σ.env ts,b2b (a2X sel 0) σ.heap sel 0 with
 | some e,some h=>some { env:=e,heap:=h,n:=σ.n }
 | _,_=>none
def b0l:Nat->List (Option Nat)->Nat->Bool
 | 0,_,_=>true
 | m+1,some i::r,j=>Nat.beq i j&&b0l m r (j+1)
 | m+1,none::r,j=>b0l m r (j+1)
 | _+1,[],_=>false
theorem a6i : ∀ {m:Nat} {sel:List (Option Nat)} {j:Nat},b0l m sel j=true->m<=sel.length /\ ∀ i,i<m->sel[i]?=some none\/sel[i]?=some (some (j+i))
 | 0,_,_,_=>⟨Nat.zero_le _,fun i hi=>by omega⟩
 | m+1,some a::r,j,h=>by
   simp only [b0l,zp4,Nat.beq_eq] at h;obtain ⟨h1,h2⟩:=a6i h.2;refine ⟨by simp;omega,fun i hi => ?_⟩;cases i with
   | zero=>right;simp [h.1]
   | succ i=>rcases h2 i (by omega) with h | h
             ·left;simpa using h
             right;simp [h];omega
 | m+1,none::r,j,h=>by
   simp only [b0l] at h;obtain ⟨h1,h2⟩:=a6i h;refine ⟨by simp;omega,fun i hi => ?_⟩;cases i with
   | zero=>left;rfl
   | succ i=>rcases h2 i (by omega) with h | h
             ·left;simpa using h
             right;simp [h];omega
theorem Wk.ren {m:Nat} {σ σ':St} (sel:List (Option Nat)) (ts:List Nat) (hm:b0l m sel 0=true) (h:σ.ren sel ts=some σ'):Wk m σ σ':=by
 unfold St.ren at h;split at h
 ·rename_i e' H' hE hH;cases h;intro G a w hmn R;let f:=a2X sel 0;have hE':b8M f σ.env ts=some e':=hE;have hH':b2b f σ.heap sel 0=some H':=hH;obtain ⟨hm1,hm2⟩:=a6i hm;obtain ⟨hl,hget⟩:=a5l hH';let G':Gh :=
   { K:=G.K
     O:=fun b=>match G.O b with
      | some (ℓ,q)=>match ℓ.ren f with | some ℓ'=>some (ℓ',q) | none=>none
      | none=>none
     β:=fun
      | .o j=>match sel[j]? with | some (some i)=>G.β (.o i) | _=>G.β (.o j)
      | r=>G.β r
     nh:=sel.length }
  have hO' : ∀ {b ℓ' q},G'.O b=some (ℓ',q) -> ∃ ℓ,G.O b=some (ℓ,q)/\ℓ.ren f=some ℓ':=by
   intro b ℓ' q h;simp only [G'] at h;split at h
   ·rename_i ℓ q' hO;split at h
    ·rename_i ℓ2 h2;cases h;exact ⟨ℓ,hO,h2⟩
    cases h
   cases h
  have hrn:Rn f G G' w w:=by
   refine ⟨KLe.refl _,fun b ℓ ℓ' q h1 h2=>⟨by simp only [G',h2,h1],rfl⟩,fun a a' h1 _ => ?_,fun _=>rfl⟩;obtain ⟨_,h3⟩:=a2M h1;rw [Nat.sub_zero] at h3;exact ⟨by simp only [G',h3],(zp2.1 h3).1⟩
  refine ⟨G',⟨⟨⟨fun b ℓ' q h => ?_⟩,hl,fun j ob' hob => ?_,R.h.kept,fun b ℓ' q h => ?_⟩,R.size,fun t => ?_,fun t r off ht => ?_,?_⟩,?_,hm1⟩
  ·obtain ⟨ℓ,h1,h2⟩:=hO' h;have:=R.h.sane.no b ℓ q h1;cases ℓ <;> simp only [Loc.ren,Option.map_eq_some_iff,zp3] at h2 <;> first | (obtain ⟨x,_,rfl⟩:=h2;simp [Loc.root];done) | (subst h2;exact this)
  ·rcases hget j ob' hob with rfl | ⟨i,ob,h1,h2,h3,h4⟩
   ·trivial
   rw [Nat.zero_add] at h3 h4;exact (R.h.objs i ob h2).ren (by rw [<-R.h.nh];exact (zp2.1 h2).1) hrn h3 h4
  ·obtain ⟨ℓ,h1,_⟩:=hO' h;exact R.h.disj b ℓ q h1
  ·rcases a7X hE' t with h | h
   ·simp only [St.get];rw [h];exact .undef _ _
   have hs:=R.slots t;have:RepV G w (.s t) (a1S σ.env t).noPlace (a.tmps.getD t Go.undef):=by
    simp only [St.get] at hs;generalize a1S σ.env t=c at hs;cases c <;> first | exact hs | exact .undef _ _
   exact this.ren hrn h rfl
  ·exfalso;simp only [St.get] at ht;rcases a7X hE' t with h | h
   ·rw [ht] at h;cases h
   rw [ht] at h;generalize a1S σ.env t=c at h;have hl:=AV.ren_isLocal h;cases c <;> simp only [AV.noPlace,AV.ren] at h <;> (repeat' split at h) <;> simp_all [AV.isLocal,AV.noPlace]
  ·refine ⟨R.df.1,fun d hd => ?_⟩;obtain ⟨r0,h1,h2,h3⟩:=R.df.2 d hd;exact ⟨r0,h1,(hrn.O _ _ .df _ rfl h2).1,h3⟩
  refine ⟨KLe.refl _,fun x v h => .inl h,fun b hb h=>⟨rfl,by simp only [G',h]⟩,Nat.le_refl _,fun i hi => ?_,rfl,rfl,fun _ _=>rfl,rfl,Nat.le_refl _⟩;rcases hm2 i hi with h | h
  ·simp only [G',h]
  rw [Nat.zero_add] at h;simp only [G',h]
 cases h
end Go.Am
namespace Go.Am
open Go
def AV.freshOf:AV->Option (Nat×List D)
 | .fresh k l=>some (k,l)
 | .own k []=>some (k,[])
 | .lim k []=>some (k,[])
 | _=>none
theorem a2N {G:Gh} {w:World} {ℓ:Loc} {k:Nat} {p:Option Addr}:a4p G w ℓ k [] (.slice p 0 0) :=
 ⟨p,0,rfl,fun x hx=>by simp at hx,Nat.le_refl _,fun h=>by omega⟩
theorem b1c {G:Gh} {w:World} {ℓ:Loc} {c:AV} {v:Value} {k:Nat} {l:List D} (h:RepV G w ℓ c v) (hc:c.freshOf=some (k,l)):a4p G w ℓ k l v:=by
 unfold AV.freshOf at hc;split at hc
 ·cases hc;cases h with | fresh _ _ _ _ h=>exact h
 ·cases hc;cases h with | own _ _ _ _ hr ht =>
  rcases hr.slice with ⟨_,oa,hv⟩ | ⟨b,off,cap,hv⟩
  ·rw [hv];exact a2N
  rcases Nat.eq_zero_or_pos cap with h0 | h0
  ·subst h0;rw [hv];exact a2N
  obtain ⟨f,c,e,h1,h2,h3,h4,h5⟩:=ht _ _ _ hv h0;dsimp only at h1 h2 h3 h4 h5;subst h5;have hf:f=0:=by simpa using h2
  subst hf;exact ⟨some ⟨b,0,none⟩,cap,hv,fun x hx=>by simp at hx,Nat.zero_le _,fun _=>⟨b,c,e,rfl,h1,h3,by simpa using h4,fun j hj=>by simp [D.flat] at hj,fun j hj=>by simp [D.flat] at hj⟩⟩
 ·cases hc;cases h with | lim _ _ _ _ hr ht =>
  rcases hr.slice with ⟨_,oa,hv⟩ | ⟨b,off,cap,hv⟩
  ·rw [hv];exact a2N
  have:=ht _ _ _ hv;simp at this;subst this;rw [hv];exact a2N
 cases hc
theorem Rel.reCell {G:Gh} {σ:St} {a:Act} {w:World} (R:Rel G σ a w) {i j:Nat} {cs:List AV} {c':AV} (hi:σ.heap[i]?=some (.cells cs))
  (hc : ∀ vs e,j<cs.length->w.heap[G.β (.o i)]?=some (.cells vs e (0,0))->RepV G w (.oc i j) c' (vs.getD j Go.undef)) (hcell:c'.isCell=true):Rel G { σ with heap:=σ.heap.set i (.cells (cs.set j c')) } a w:=by
 refine ⟨⟨R.h.sane,by simpa using R.h.nh,fun x ob hob => ?_,R.h.kept,R.h.disj⟩,R.size,R.slots,R.places,R.df⟩;by_cases hx:i=x
 ·subst hx;simp only at hob;rw [List.getElem?_set_self (zp2.1 hi).1] at hob;injection hob with hob;subst hob
  obtain ⟨vs,e,p1,p2,p3,p4,p5⟩:=R.h.objs i _ hi;refine ⟨vs,e,p1,p2,by simpa using p3,fun y hy => ?_,fun c hc0 => ?_⟩
  ·by_cases hyj:y=j
   ·subst hyj;rw [List.getElem_set_self];exact hc vs e (by simpa using hy) p2
   rw [List.getElem_set_ne (Ne.symm hyj)];exact p4 y (by simpa using hy)
  rcases List.mem_or_eq_of_mem_set hc0 with hc0 | rfl
  ·exact p5 c hc0
  exact hcell
 rw [List.getElem?_set_ne hx] at hob;exact R.h.objs x ob hob
theorem Rel.reSlot {G:Gh} {σ:St} {a:Act} {w:World} (R:Rel G σ a w) {s:Nat} {c:AV} (hc:RepV G w (.s s) c (a.tmps.getD s Go.undef)) (hl:c.isLocal=false) (hb:(σ.get s).isBox=false):Rel G { σ with env:=eset σ.env s c } a w:=by
 refine ⟨R.h,R.size,fun t => ?_,fun t r off ht => ?_,R.df⟩
 ·simp only [St.get,a0e];split
  ·rename_i e;subst e;exact hc
  exact R.slots t
 simp only [St.get,a0e] at ht ⊢;split at ht
 ·subst ht;simp [AV.isLocal] at hl
 obtain ⟨cs,hcs⟩:=R.places t r off ht;refine ⟨cs,?_⟩;split
 ·rename_i e;subst e;rw [show σ.get s = .lbox cs from hcs] at hb;simp [AV.isBox] at hb
 exact hcs
theorem Wk.settle {m:Nat} {σ:St} (i j:Nat) {k:Nat} {l:List D} {cs:List AV} {c:AV} (hi:σ.heap[i]?=some (.cells cs)) (hj:cs[j]?=some c) (hc:c.freshOf=some (k,l)) :
  Wk m σ { σ with heap:=σ.heap.set i (.cells (cs.set j (.gref σ.heap.length k)))++[.gro k l,.dead,.dead] }:=by
 intro G a w hm R;obtain ⟨vs,e,o1,o2,o3,o4,o5⟩:=R.h.objs i _ hi;have hjl:j<cs.length:=(zp2.1 hj).1;have hcj:cs[j]=c:=(zp2.1 hj).2;have hil:i<σ.heap.length:=(zp2.1 hi).1;have h0:=o4 j hjl;rw [hcj] at h0;obtain ⟨p,cap,hv,hu,hl,hb⟩:=b1c h0 hc;have R1:=R.reCell (j:=j) (c' := .junk) hi (fun vs' e' _ hw'=>by rw [o2] at hw';cases hw';rw [hv];exact .junk _ _ rfl) rfl;obtain ⟨b,hb'⟩ : ∃ b,0<cap->p=some ⟨b,0,none⟩/\G.O b=some (.oc i j,0) /\ ∃ vs e,w.heap[b]?=some (.cells vs e (0,0))/\cap*k<=vs.size /\
   (∀ j,j<(D.flat l).length->(vs.getD j Go.undef).oneCell'=true) /\ ∀ (j:Nat) (hj:j<(D.flat l).length),RepD G.K (D.flat l)[j] (vs.getD j Go.undef):=by
  rcases Nat.eq_zero_or_pos cap with h | h
  ·exact ⟨0,fun h'=>by omega⟩
  obtain ⟨b,vs,e,q1,q2,q3,q4,q5,q6⟩:=hb h;exact ⟨b,fun _=>⟨q1,q2,vs,e,q3,q4,q5,q6⟩⟩
 have hN:({ σ with heap:=σ.heap.set i (.cells (cs.set j .junk)) }:St).heap.length=σ.heap.length:=by simp
 obtain ⟨R2,hE,hrep⟩:=R1.toGro (w':=w) (k:=k) (l:=l) (cap:=cap) (b:=b) (p:=p) (fun hc=>(hb' hc).1) hu hl (Nat.le_refl _) ⟨rfl,rfl,fun _ _=>rfl,rfl,Nat.le_refl _⟩ (fun _ _ _=>rfl)
  (fun hc=>by
   obtain ⟨q1,q2,vs,e,q3,q4⟩:=hb' hc;refine ⟨(Array.getElem?_eq_some_iff.1 q3).1,.inr ⟨_,q2,?_⟩,vs,e,q3,q4⟩;refine .inl ⟨cs.set j .junk,by simp [hil],fun c hc => ?_⟩;rw [List.getElem?_set_self hjl] at hc;cases hc;rfl)
 rw [hN] at R2 hE hrep;have hβ:(G.gro σ.heap.length b cap l.length).β (.o i)=G.β (.o i):=by
  simp only [Gh.gro,Root.o.injEq];rw [if_neg (by omega),if_neg (by omega),if_neg (by omega)]
 have R3:=R2.reCell (i:=i) (j:=j) (cs:=cs.set j .junk) (c' := .gref σ.heap.length k) (by simp [zp7,hil]) (fun vs' e' _ hw'=>by
  rw [hβ,o2] at hw';cases hw';rw [hv];exact hrep _) rfl
 refine ⟨_,?_,hE m hm,?_⟩
 ·have:(σ.heap.set i (Obj.cells (cs.set j AV.junk))++[Obj.gro k l,.dead,.dead]).set i (.cells ((cs.set j AV.junk).set j (.gref σ.heap.length k)))=σ.heap.set i (.cells (cs.set j (.gref σ.heap.length k)))++[.gro k l,.dead,.dead]:=by
   rw [List.set_append_left _ _ (by simpa using hil),List.set_set,List.set_set]
  rw [this] at R3;exact R3
 have:=R.h.nh;simp only [Gh.gro];omega
theorem RelH.freezeG {G:Gh} {H:List Obj} {w:World} {c:Loc} (R:RelH G H w) {i k:Nat} {l:List D} {v:Value} (hrep:RepV G w c (.gref i k) v) (hi:H[i]?=some (.gro k l)) :
  ∃ G',RelH G' (H.set i .dead) w/\RepD G'.K (.list k l) v/\(∀ m,Ext m G w G' w)/\Pres G G' w w (fun x=>x ≠ .o i)/\G'.β=G.β:=by
 have hil:i<H.length:=(zp2.1 hi).1;have hrep0:=hrep;cases hrep with | gref _ _ _ p ha hc hp =>
 obtain ⟨g0,g1,g2,g3,g4⟩:=R.objs i _ hi;by_cases hcap:G.β (.o (i+1))=0
 ·have hl:l=[]:=List.eq_nil_of_length_eq_zero (by omega);have h2:G.β (.o (i+2))=0:=by omega
  subst hl;refine ⟨G,⟨R.sane,by simpa using R.nh,fun j ob hob => ?_,R.kept,R.disj⟩,by rw [hcap,h2];exact RepD.zero _ _ _,fun m=>Ext.refl _ _ _,⟨KLe.refl _,fun b ℓ f _ h=>⟨h,rfl⟩,fun _ _=>rfl,Nat.le_refl _⟩,rfl⟩;by_cases hij:i=j
  ·subst hij;rw [List.getElem?_set_self hil] at hob;cases hob;trivial
  rw [List.getElem?_set_ne hij] at hob;exact R.objs j ob hob
 obtain ⟨vs,e,h1,h2,h3,h4,h5⟩:=g4 (by omega);have hfl:=a0b g3;have hmul:l.length*k<=G.β (.o (i+1))*k:=Nat.mul_le_mul_right _ g2;have R':RelH G (H.set i (.arr k l)) w:=by
  refine ⟨R.sane,by simpa using R.nh,fun j ob hob => ?_,R.kept,R.disj⟩;by_cases hij:i=j
  ·subst hij;rw [List.getElem?_set_self hil] at hob;cases hob;exact ⟨vs,e,h1,h2,g3,by omega,h4,h5⟩
  rw [List.getElem?_set_ne hij] at hob;exact R.objs j ob hob
 obtain rfl:=hp (by omega);have hm:RepV G w c (.mref i k 0 l.length) (.slice (some ⟨G.β (.o i),0,none⟩) (G.β (.o (i+2))) (G.β (.o (i+1)))):=by
  have:=RepV.mref (G:=G) (w:=w) c i k 0 (l.length:Int) (G.β (.o i)) 0 (G.β (.o (i+1))) (by omega) (Int.le_refl _) (by omega) (by simpa using g2) (fun _=>⟨rfl,by simp⟩);rw [<-g1];simpa using this
 obtain ⟨G',q1,q2,q3,q4,q5⟩:=R'.freezeP hm (by rw [List.getElem?_set_self hil]) (by omega);rw [List.set_set] at q1;have hs:Ar.std.sub l 0 (0+(l.length:Int))=l:=by simp [Ar.std]
 rw [hs] at q2;exact ⟨G',q1,q2,q3,q4,q5⟩
theorem Rel.ofPres {G G':Gh} {σ:St} {a:Act} {w:World} (R:Rel G σ a w) {H':List Obj} {i:Nat} (R1:RelH G' H' w) (hpr:Pres G G' w w (fun x=>x ≠ .o i)) (hβ:G'.β=G.β):Rel G' { σ with heap:=H' } a w:=by
 refine ⟨R1,R.size,fun t=>(R.slots t).pres R.h.sane hpr (by simp) (fun _ _ _=>by rw [hβ]) (fun _ _ _=>⟨by rw [hβ],by simp⟩),R.places,⟨R.df.1,fun d hd => ?_⟩⟩;obtain ⟨r0,h1,h2,h3⟩:=R.df.2 d hd;exact ⟨r0,h1,(hpr.O _ _ _ (by simp) h2).1,h3⟩
theorem Wk.freezeG {m:Nat} {σ:St} (i j:Nat) {q k:Nat} {l:List D} {cs:List AV} (hi:σ.heap[i]?=some (.cells cs)) (hj:cs[j]?=some (.gref q k)) (hq:σ.heap[q]?=some (.gro k l)) :
  Wk m σ { σ with heap:=(σ.heap.set q .dead).set i (.cells (cs.set j (.d (.list k l)))) }:=by
 intro G a w hm R;have hjl:j<cs.length:=(zp2.1 hj).1;have hcj:cs[j] = .gref q k:=(zp2.1 hj).2;obtain ⟨vs,e,o1,o2,o3,o4,o5⟩:=R.h.objs i _ hi;have hv:=o4 j hjl;rw [hcj] at hv;have hiq:q≠i:=by rintro rfl;rw [hq] at hi;cases hi
 obtain ⟨G',R1,hd,hE,hpr,hβ⟩:=R.h.freezeG hv hq;have R2:=R.ofPres R1 hpr hβ;have hi1:({ σ with heap:=σ.heap.set q .dead }:St).heap[i]?=some (.cells cs):=by simp only;rw [List.getElem?_set_ne hiq];exact hi
 have R3:=R2.reCell (j:=j) (c' := .d (.list k l)) hi1 (fun vs' e' _ hw'=>by
  rw [hβ,o2] at hw';cases hw';exact .d _ _ _ hd) rfl
 refine ⟨G',R3,hE m,?_⟩;have h1:=R1.nh;have h2:=R.h.nh;simp at h1;omega
theorem Wk.freezeS {m:Nat} {σ:St} (s:Nat) {q k:Nat} {l:List D} (hs:σ.get s = .gref q k) (hq:σ.heap[q]?=some (.gro k l)) :
  Wk m σ { σ with env:=eset σ.env s (.d (.list k l)),heap:=σ.heap.set q .dead }:=by
 intro G a w hm R;have hv:=R.slots s;rw [hs] at hv;obtain ⟨G',R1,hd,hE,hpr,hβ⟩:=R.h.freezeG hv hq;have R2:=R.ofPres R1 hpr hβ;have R3:=R2.reSlot (s:=s) (c := .d (.list k l)) (.d _ _ _ hd) rfl (by show (σ.get s).isBox=false;rw [hs];rfl);refine ⟨G',R3,hE m,?_⟩;have h1:=R1.nh;have h2:=R.h.nh;simp at h1;omega
theorem a0h.fresh {P:Program} {f:FuncId} {args:List AV} {k:Nat} {l:List D} (hc:a0h P f args [] (.own k l) []) (hs:scalars l=true):a0h P f args [] (.fresh k l) []:=by
 obtain ⟨h1,_,_,_,_,h⟩:=hc;refine ⟨h1,rfl,rfl,rfl,Nat.le_refl _,?_⟩;intro N G w vs hvs hrep R hO;have hnone : ∀ b,(G.handed 0).O b=none:=fun b=>a2P (by intro ℓ f _;cases ℓ <;> simp [a1a]);have R0:=R.handed (H:=[]) (rest:=[]) rfl;have hsub:Sub G (G.handed 0) w w (fun ℓ=>ℓ = .no) 0 :=
  ⟨KLe.refl _,fun b ℓ f hl hO=>absurd (hl▸rfl) (R.sane.no b ℓ f hO),fun _ _=>rfl,Nat.le_refl _⟩
 have hnh:G.nh=0:=by have:=R.nh;simpa using this.symm
 have hpr0 : ∀ (i:Nat) (hi:i<args.length),RepV (G.handed 0) w .no args[i] (vs.getD i Go.undef):=by
  intro i hi;refine (hrep i hi).pres R.sane (S:=fun ℓ=>ℓ = .no) ⟨KLe.refl _,fun b ℓ f hl hO=>absurd (hl▸rfl) (R.sane.no b ℓ f hO),fun _ _=>rfl,by rw [hnh];exact Nat.le_refl _⟩ rfl (fun _ _ _=>rfl) (fun t e=>by cases e)
 refine CallsIn.mono (h N (G.handed 0) w vs hvs hpr0 R0 (fun b ℓ f hb=>by rw [hnone] at hb;cases hb)) ?_;rintro e w' ⟨v,G3,rfl,hv,R3,hE⟩;have hold : ∀ b',b'<w.heap.size->w'.heap[b']?=w.heap[b']?:=fun b' hb=>(hE.others b' hb (hnone b')).1;have hkept : ∀ x v,G.K x=some v->w'.cell? x=some v:=by
  intro x v h;have hx:=R.kept x v h;have hb:=World.block_lt_of_cell? w _ hx;unfold World.cell? at *
  rwa [hold _ hb]
 have triv:RepV G w' .ret (.fresh k l) v -> ∃ v' G',Ending.returned v = .returned v'/\RepV G' w' .ret (.fresh k l) v'/\RelH G' [] w'/\Ext ([]:List Obj).length G w G' w':=by
  intro hr;refine ⟨v,G,rfl,hr,⟨R.sane,R.nh,fun i ob hob=>by simp at hob,hkept,fun b ℓ f h => ?_⟩,⟨KLe.refl _,fun x v h => .inl h,fun b hb h=>⟨hold b hb,h⟩,hE.size,fun _ _=>rfl,hE.io⟩⟩;have:=R.disj b ℓ f h;exact ⟨Nat.lt_of_lt_of_le this.1 hE.size,this.2⟩
 cases hv with | own _ _ _ _ hr ht =>
 rcases hr.slice with ⟨rfl,oa,hvv⟩ | ⟨b,off,cap,hvv⟩
 ·exact triv (by rw [hvv];exact .fresh _ _ _ _ a2N)
 rw [hvv] at hr;generalize hv':Value.slice (some ⟨b,off,none⟩) l.length cap=v2 at hr;have hcl:l.length<=cap:=by
  cases hr with
  | nil=>simp at hv'
  | none0=>simp
  | list k l b' off' cap' vs hu hc=>simp at hv';omega
 rcases Nat.eq_zero_or_pos cap with h0 | h0
 ·subst h0;have hl:l=[]:=List.eq_nil_of_length_eq_zero (by omega);subst hl;exact triv (by rw [hvv];exact .fresh _ _ _ _ a2N)
 obtain ⟨fr,c,e0,t1,t2,t3,t4,t5⟩:=ht _ _ _ hvv h0;dsimp only at t1 t2 t3 t4 t5;subst t5;have hnew:w.heap.size<=b:=by
  rcases Nat.lt_or_ge b w.heap.size with hb | hb
  ·have:=(hE.others b hb (hnone b)).2;rw [this] at t1;cases t1
  exact hb
 have hblt:b<w'.heap.size:=(Array.getElem?_eq_some_iff.1 t3).1;obtain ⟨hu,vs2,hKK,h1c,hh⟩:a0m k l /\ ∃ vs:Nat->Value,(∀ j,j<(D.flat l).length->G3.K ⟨b,0+j,none⟩=some (vs j))/\(∀ j,j<(D.flat l).length->(vs j).oneCell'=true) /\ ∀ (j:Nat) (hj:j<(D.flat l).length),RepD G3.K (D.flat l)[j] (vs j):=by
  cases hr with
  | nil=>simp at hv'
  | none0=>simp at hv';omega
  | list k l b' off' cap' vs hu hc hK h1 hh =>
    simp at hv';obtain ⟨⟨rfl,rfl⟩,_⟩:=hv';exact ⟨hu,vs,hK,h1,hh⟩
 have hfl:=a0b hu;have hsz:(D.flat l).length<=c.size:=by
  have:l.length*k<=cap*k:=Nat.mul_le_mul_right k hcl;omega
 have hcell : ∀ j,j<(D.flat l).length->c.getD j Go.undef=vs2 j:=by
  intro j hj;have:=R3.kept _ _ (hKK j hj);rw [Nat.zero_add] at this;have h2:=a0P t3 (show j<c.size by omega);rw [this] at h2;exact (Option.some.inj h2).symm
 let G':Gh:={ G with O:=fun x=>if x=b then some (.ret,0) else G.O x }
 have hKb : ∀ j,G.K ⟨b,j,none⟩=none:=by
  intro j;cases hK:G.K ⟨b,j,none⟩ with
  | none=>rfl
  | some v=>have:=World.block_lt_of_cell? w _ (R.kept _ _ hK);simp at this;omega
 refine ⟨v,G',rfl,.fresh _ _ _ _ ⟨some ⟨b,0,none⟩,cap,hvv,hu,hcl,fun _=>⟨b,c,e0,rfl,by simp [G'],t3,by simpa using t4,fun j hj=>by rw [hcell j hj];exact h1c j hj,fun j hj => ?_⟩⟩,
  ⟨⟨fun b' ℓ f' h => ?_⟩,R.nh,fun i ob hob=>by simp at hob,hkept,fun b' ℓ f' h => ?_⟩,⟨KLe.refl _,fun x v h => .inl h,fun b' hb h=>⟨hold b' hb,?_⟩,hE.size,fun _ _=>rfl,hE.io⟩⟩
 ·rw [hcell j hj];exact (hh j hj).scalar (a8R hs _ (zp6 hj))
 ·simp only [G'] at h;split at h
  ·simp at h;rw [<-h.1];simp [Loc.root]
  exact R.sane.no b' ℓ f' h
 ·simp only [G'] at h;split at h
  ·rename_i e;subst e;exact ⟨hblt,fun j _=>hKb j⟩
  have:=R.disj b' ℓ f' h;exact ⟨Nat.lt_of_lt_of_le this.1 hE.size,this.2⟩
 simp only [G'];rw [if_neg (by omega)];exact h
def a9s (m:Nat):List Obj->Nat->Option (List Obj)
 | [],_=>some []
 | ob::r,i=>match ob.ren (fun x=>some (x+m)) i (i+m),a9s m r (i+1) with | some o,some x=>some (o::x) | _,_=>none
theorem a7c {m:Nat} : ∀ {H H1:List Obj} {i0:Nat},a9s m H i0=some H1->H1.length=H.length /\ ∀ (i:Nat) (ob':Obj),H1[i]?=some ob' -> ∃ ob,H[i]?=some ob/\ob.ren (fun x=>some (x+m)) (i0+i) (i0+i+m)=some ob'
 | [],H1,i0,h=>by simp [a9s] at h;subst h;exact ⟨rfl,fun i ob' e=>by simp at e⟩
 | ob::r,H1,i0,h=>by
   simp only [a9s] at h;split at h
   ·rename_i o x h1 h2;cases h;obtain ⟨h3,h4⟩:=a7c h2;refine ⟨by simp [h3],fun i ob' e => ?_⟩;cases i with
    | zero=>simp at e;subst e;exact ⟨ob,rfl,by simpa using h1⟩
    | succ i =>
      obtain ⟨ob1,q1,q2⟩:=h4 i ob' (by simpa using e);refine ⟨ob1,by simpa using q1,?_⟩;rw [show i0+(i+1)=i0+1+i by omega];exact q2
   cases h
theorem a0h.shift {P:Program} {f:FuncId} {args:List AV} {r r':AV} {H' H1:List Obj} (hc:a0h P f args [] r H') (hargs:a4e 0 args=true) (hfree:args.all AV.free=true) (H0:List Obj) (hr:r.ren (fun x=>some (x+H0.length))=some r') (hH:a9s H0.length H' 0=some H1)
  (hri:r'.inb (H0++H1).length=true) (hin:a0v (H0++H1).length (H0++H1)=true):a0h P f args H0 r' (H0++H1):=by
 obtain ⟨h1,hrl,_,_,_,h⟩:=hc;refine ⟨h1,by rw [AV.ren_isLocal hr];exact hrl,hri,hin,by simp,?_⟩;intro N G w vs hvs hrep R hO;have R0:=R.handed (H:=[]) (rest:=H0) rfl;have hsub:Sub G (G.handed 0) w w (fun ℓ=>ℓ = .no) 0 :=
  ⟨KLe.refl _,fun b ℓ f hl hO=>absurd (hl▸rfl) (R.sane.no b ℓ f hO),fun _ _=>rfl,Nat.le_refl _⟩
 have hfree' : ∀ c∈args,c.free=true:=by simpa using hfree
 have hnone : ∀ b,(G.handed 0).O b=none:=fun b=>a2P (by intro ℓ f _;cases ℓ <;> simp [a1a]);refine CallsIn.mono (h N (G.handed 0) w vs hvs (fun i hi=>(hrep i hi).sub R.sane hsub rfl (a0V hargs i hi) (AV.free_isLocal (hfree' _ (zp6 hi)))) R0 (fun b ℓ f hb=>by rw [hnone] at hb;cases hb)) ?_;rintro e w' ⟨v,G3,rfl,hv,R3,hE⟩;have hnh:H0.length=G.nh:=R.nh;obtain ⟨hl1,hg1⟩:=a7c hH;let m:=H0.length;let ff:Nat->Option Nat:=fun x=>some (x+m);let Gf:Gh :=
  { K:=G3.K
    O:=fun b=>match G.O b with
     | some p=>some p
     | none=>match G3.O b with
       | some (ℓ,q)=>match ℓ.ren ff with | some ℓ'=>some (ℓ',q) | none=>none
       | none=>none
    β:=fun
     | .o i=>if i<m then G.β (.o i) else G3.β (.o (i-m))
     | x=>G3.β x
    nh:=m+H'.length }
 have hold : ∀ b ℓ q,G.O b=some (ℓ,q)->w'.heap[b]?=w.heap[b]?/\G3.O b=none:=fun b ℓ q h=>hE.others b (R.disj b ℓ q h).1 (hnone b);have hrn:Rn ff G3 Gf w' w':=by
  refine ⟨KLe.refl _,fun b ℓ ℓ' q h1 h2=>⟨?_,rfl⟩,fun a a' h1 h2 => ?_,fun _=>rfl⟩
  ·cases hG:G.O b with
   | none=>simp only [Gf,hG,h2,h1]
   | some p=>obtain ⟨ℓ0,q0⟩:=p;rw [(hold b ℓ0 q0 hG).2] at h2;cases h2
  simp only [ff,zp3] at h1;subst h1;have:=R3.nh;refine ⟨?_,by simp only [Gf];omega⟩;simp only [Gf];rw [if_neg (by omega),Nat.add_sub_cancel]
 have hpr:Pres G Gf w w' (fun _=>True):=by
  refine ⟨hE.K,fun b ℓ q _ h=>⟨by simp only [Gf,h],(hold b ℓ q h).1⟩,fun a ha => ?_,by simp only [Gf];omega⟩;simp only [Gf];rw [if_pos (by omega)]
 have hO' : ∀ {b ℓ' q},Gf.O b=some (ℓ',q)->G.O b=some (ℓ',q)\/(G.O b=none /\ ∃ ℓ,G3.O b=some (ℓ,q)/\ℓ.ren ff=some ℓ'):=by
  intro b ℓ' q h;cases hG:G.O b with
  | some p=>simp only [Gf,hG] at h;exact .inl h
  | none =>
    refine .inr ⟨rfl,?_⟩;simp only [Gf,hG] at h;split at h
    ·rename_i ℓ q' hO;split at h
     ·rename_i ℓ2 h2;cases h;exact ⟨ℓ,hO,h2⟩
     cases h
    cases h
 refine ⟨v,Gf,rfl,hv.ren hrn hr rfl,⟨⟨fun b ℓ' q h => ?_⟩,by simp only [Gf,List.length_append,hl1];rfl,fun i ob hob => ?_,R3.kept,fun b ℓ' q h => ?_⟩,⟨hE.K,fun x v h => ?_,fun b hb h => ?_,hE.size,fun i hi => ?_,hE.io⟩⟩
 ·rcases hO' h with h | ⟨_,ℓ,h2,h3⟩
  ·exact R.sane.no b ℓ' q h
  have:=R3.sane.no b ℓ q h2;cases ℓ <;> simp only [Loc.ren,Option.map_eq_some_iff,zp3] at h3 <;> first | (obtain ⟨x,_,rfl⟩:=h3;simp [Loc.root];done) | (subst h3;exact this)
 ·rcases Nat.lt_or_ge i m with hi | hi
  ·rw [zp7 hi] at hob;exact (R.objs i ob hob).pres R.sane (by omega) hpr trivial (fun _=>trivial)
  rw [zp8 hi] at hob;obtain ⟨ob0,q1,q2⟩:=hg1 _ _ hob;rw [Nat.zero_add] at q2;have hi2:i-H0.length+H0.length=i:=by omega
  rw [hi2] at q2;exact (R3.objs _ ob0 q1).ren (by rw [<-R3.nh];exact (zp2.1 q1).1) hrn (by simp only [ff];congr 1) q2
 ·rcases hO' h with h | ⟨_,ℓ,h2,h3⟩
  ·obtain ⟨h4,h5⟩:=R.disj b ℓ' q h;refine ⟨Nat.lt_of_lt_of_le h4 hE.size,fun j hj => ?_⟩;cases hK:Gf.K ⟨b,j,none⟩ with
   | none=>rfl
   | some x =>
     rcases hE.new ⟨b,j,none⟩ x hK with h6 | ⟨p,h6⟩ | h6
     ·rw [show (G.handed 0).K=G.K from rfl,h5 j hj] at h6;cases h6
     ·rw [hnone] at h6;cases h6
     simp at h6;omega
  exact R3.disj b ℓ q h2
 ·rcases hE.new x v h with h | ⟨p,h⟩ | h
  ·exact .inl h
  ·rw [hnone] at h;cases h
  exact .inr (.inr h)
 ·obtain ⟨h2,h3⟩:=hE.others b hb (hnone b);exact ⟨h2,by simp only [Gf,h,h3]⟩
 simp only [Gf];rw [if_pos hi]
def b0m (sel:List (Option Nat)) (M i:Nat):Option Nat:=if i<sel.length then (match sel[i]? with | some (some j)=>some j | _=>none) else some (i-sel.length+M)
def c0G (g f:Nat->Option Nat) (H':List Obj):List Obj->Nat->Option (List Obj)
 | [],_=>some []
 | ob::r,j=>match (match f j with | some i=>(match H'[i]? with | some o=>o.ren g i j | none=>none) | none=>some ob),c0G g f H' r (j+1) with
   | some o,some x=>some (o::x)
   | _,_=>none
def c0H (g:Nat->Option Nat):List Obj->Nat->Nat->Option (List Obj)
 | [],_,_=>some []
 | ob::r,i,j=>match ob.ren g i j,c0H g r (i+1) (j+1) with | some o,some x=>some (o::x) | _,_=>none
theorem b1d {g f:Nat->Option Nat} {H':List Obj} : ∀ {B B':List Obj} {j0:Nat},c0G g f H' B j0=some B'->B'.length=B.length /\ ∀ (j:Nat) (ob':Obj),B'[j]?=some ob'->(f (j0+j)=none/\B[j]?=some ob') \/ ∃ i o,f (j0+j)=some i/\H'[i]?=some o/\o.ren g i (j0+j)=some ob'
 | [],B',j0,h=>by simp [c0G] at h;subst h;exact ⟨rfl,fun i ob' e=>by simp at e⟩
 | ob::r,B',j0,h=>by
   simp only [c0G] at h;split at h
   ·rename_i o x h1 h2;cases h;obtain ⟨h3,h4⟩:=b1d h2;refine ⟨by simp [h3],fun j ob' e => ?_⟩;cases j with
    | zero =>
      simp at e;subst e;split at h1
      ·rename_i i hi;split at h1
       ·rename_i o2 ho;exact .inr ⟨i,o2,hi,ho,h1⟩
       cases h1
      rename_i hi;cases h1;exact .inl ⟨hi,rfl⟩
    | succ j =>
      have:=h4 j ob' (by simpa using e);rw [show j0+1+j=j0+(j+1) by omega] at this;simpa using this
   cases h
theorem b1e {g:Nat->Option Nat} : ∀ {N N':List Obj} {i0 j0:Nat},c0H g N i0 j0=some N'->N'.length=N.length /\ ∀ (k:Nat) (ob':Obj),N'[k]?=some ob' -> ∃ o,N[k]?=some o/\o.ren g (i0+k) (j0+k)=some ob'
 | [],N',i0,j0,h=>by simp [c0H] at h;subst h;exact ⟨rfl,fun i ob' e=>by simp at e⟩
 | ob::r,N',i0,j0,h=>by
   simp only [c0H] at h;split at h
   ·rename_i o x h1 h2;cases h;obtain ⟨h3,h4⟩:=b1e h2;refine ⟨by simp [h3],fun k ob' e => ?_⟩;cases k with
    | zero=>simp at e;subst e;exact ⟨ob,rfl,h1⟩
    | succ k =>
      obtain ⟨o,q1,q2⟩:=h4 k ob' (by simpa using e);exact ⟨o,by simpa using q1,by rw [<-q2];congr 1 <;> omega⟩
   cases h
theorem a7Y {f:Nat->Option Nat} {H:List Obj} : ∀ {sel:List (Option Nat)} {j0:Nat} {H':List Obj},b2b f H sel j0=some H' -> ∀ (j i:Nat),sel[j]?=some (some i)->i<H.length/\f i=some (j0+j)
 | [],j0,H',h,j,i,e=>by simp at e
 | none::r,j0,H',h,j,i,e=>by
   simp only [b2b] at h;split at h
   ·rename_i x hx;cases j with
    | zero=>simp at e
    | succ j =>
      have:=a7Y hx j i (by simpa using e);rw [show j0+1+j=j0+(j+1) by omega] at this;exact this
   cases h
 | some i0::r,j0,H',h,j,i,e=>by
   simp only [b2b] at h;split at h
   ·rename_i ob j' hob hj';split at h
    ·rename_i hjj;subst hjj;split at h
     ·rename_i o x ho hx;cases j with
      | zero=>simp at e;subst e;exact ⟨(zp2.1 hob).1,hj'⟩
      | succ j =>
        have:=a7Y hx j i (by simpa using e);rw [show j'+1+j=j'+(j+1) by omega] at this;exact this
     cases h
    cases h
   cases h
theorem a0h.emb {P:Program} {f:FuncId} {args args':List AV} {r r':AV} {H H' B N:List Obj} (hc:a0h P f args H r H') (sel:List (Option Nat)) (Hb:List Obj)
  (hH:b2b (a2X sel 0) Hb sel 0=some H) (ha:b4D (a2X sel 0) args'=some args) (hr:r.ren (b0m sel Hb.length)=some r')
  (hB:c0G (b0m sel Hb.length) (a2X sel 0) H' Hb 0=some B) (hN:c0H (b0m sel Hb.length) (H'.drop sel.length) sel.length Hb.length=some N)
  (hri:r'.inb (B++N).length=true) (hin:a0v (B++N).length (B++N)=true):a0h P f args' Hb r' (B++N):=by
 obtain ⟨h1,hrl,_,_,hle,h⟩:=hc;obtain ⟨hl,hget⟩:=a5l hH;have hsel:=a7Y hH;obtain ⟨la,ga⟩:=a2s ha;obtain ⟨lB,gB⟩:=b1d hB;obtain ⟨lN,gN⟩:=b1e hN;refine ⟨h1,by rw [AV.ren_isLocal hr];exact hrl,hri,hin,by simp [lB],?_⟩;intro n G w vs hvs hrep R hO;have hnh:Hb.length=G.nh:=R.nh;let fb:=a2X sel 0;let fw:=b0m sel Hb.length;let G1:Gh :=
  { K:=G.K
    O:=fun b=>match G.O b with
     | some (ℓ,q)=>match ℓ.ren fb with | some ℓ'=>some (ℓ',q) | none=>none
     | none=>none
    β:=fun
     | .o j=>match sel[j]? with | some (some i)=>G.β (.o i) | _=>G.β (.o j)
     | r=>G.β r
    nh:=sel.length }
 have hO1 : ∀ {b ℓ' q},G1.O b=some (ℓ',q) -> ∃ ℓ,G.O b=some (ℓ,q)/\ℓ.ren fb=some ℓ':=by
  intro b ℓ' q h;simp only [G1] at h;split at h
  ·rename_i ℓ q' hO;split at h
   ·rename_i ℓ2 h2;cases h;exact ⟨ℓ,hO,h2⟩
   cases h
  cases h
 have hrn:Rn fb G G1 w w:=by
  refine ⟨KLe.refl _,fun b ℓ ℓ' q h1 h2=>⟨by simp only [G1,h2,h1],rfl⟩,fun a a' h1 _ => ?_,fun _=>rfl⟩;obtain ⟨_,h3⟩:=a2M h1;rw [Nat.sub_zero] at h3;exact ⟨by simp only [G1,h3],(zp2.1 h3).1⟩
 have R1:RelH G1 H w:=by
  refine ⟨⟨fun b ℓ' q h => ?_⟩,hl,fun j ob' hob => ?_,R.kept,fun b ℓ' q h => ?_⟩
  ·obtain ⟨ℓ,h1,h2⟩:=hO1 h;have:=R.sane.no b ℓ q h1;cases ℓ <;> simp only [Loc.ren,Option.map_eq_some_iff,zp3] at h2 <;> first | (obtain ⟨x,_,rfl⟩:=h2;simp [Loc.root];done) | (subst h2;exact this)
  ·rcases hget j ob' hob with rfl | ⟨i,ob,h1,h2,h3,h4⟩
   ·trivial
   rw [Nat.zero_add] at h3 h4;exact (R.objs i ob h2).ren (by rw [<-R.nh];exact (zp2.1 h2).1) hrn h3 h4
  obtain ⟨ℓ,h1,_⟩:=hO1 h;exact R.disj b ℓ q h1
 refine CallsIn.mono (h n G1 w vs (by omega) (fun i hi=>(hrep i (by omega)).ren hrn (ga i (by omega) hi) rfl) R1 (fun b ℓ q hb => ?_)) ?_
 ·obtain ⟨ℓ0,h2,h3⟩:=hO1 hb;obtain ⟨i,h4⟩:=hO b ℓ0 q h2;cases ℓ0 <;> simp [Loc.root] at h4 <;> (simp only [Loc.ren,Option.map_eq_some_iff] at h3;obtain ⟨x,_,rfl⟩:=h3;exact ⟨x,rfl⟩)
 rintro e w' ⟨v,G3,rfl,hv,R3,hE⟩;let Gf:Gh :=
  { K:=G3.K
    O:=fun b=>match G1.O b,G.O b with
     | none,some p=>some p
     | _,_=>match G3.O b with
       | some (ℓ,q)=>match ℓ.ren fw with | some ℓ'=>some (ℓ',q) | none=>none
       | none=>none
    β:=fun
     | .o j=>if j<Hb.length then G.β (.o j) else G3.β (.o (j-Hb.length+sel.length))
     | x=>G3.β x
    nh:=Hb.length+(H'.length-sel.length) }
 have hfor : ∀ b ℓ q,G.O b=some (ℓ,q)->ℓ.ren fb=none->G1.O b=none:=by
  intro b ℓ q h2 h3;simp only [G1,h2,h3]
 have hold : ∀ b ℓ q,G.O b=some (ℓ,q)->G1.O b=none->w'.heap[b]?=w.heap[b]?/\G3.O b=none:=fun b ℓ q h2 h3=>hE.others b (R.disj b ℓ q h2).1 h3;have hO' : ∀ {b ℓ' q},Gf.O b=some (ℓ',q)->(G1.O b=none/\G.O b=some (ℓ',q))\/(∃ ℓ,G3.O b=some (ℓ,q)/\ℓ.ren fw=some ℓ'):=by
  intro b ℓ' q h;simp only [Gf] at h;split at h
  ·rename_i p h2 h3;cases h;exact .inl ⟨h2,h3⟩
  split at h
  ·rename_i ℓ q' hO;split at h
   ·rename_i ℓ2 h2;cases h;exact .inr ⟨ℓ,hO,h2⟩
   cases h
  cases h
 have hrn3:Rn fw G3 Gf w' w':=by
  refine ⟨KLe.refl _,fun b ℓ ℓ' q h1 h2=>⟨?_,rfl⟩,fun a a' h1 h2 => ?_,fun _=>rfl⟩
  ·simp only [Gf];split
   ·rename_i p h3 h4;obtain ⟨ℓ0,q0⟩:=p;rw [(hold b ℓ0 q0 h4 h3).2] at h2;cases h2
   simp only [h2,h1]
  have hn3:=R3.nh;simp only [fw,b0m] at h1;split at h1
  ·rename_i hlt;split at h1
   ·rename_i j hj;cases h1;obtain ⟨h5,_⟩:=hsel a a' hj;refine ⟨?_,by simp only [Gf];omega⟩;simp only [Gf];rw [if_pos h5,hE.β a (by omega)];simp only [G1,hj]
   cases h1
  cases h1;refine ⟨?_,by simp only [Gf];omega⟩;simp only [Gf];rw [if_neg (by omega)];congr 2;omega
 have hpr:Pres G Gf w w' (fun ℓ=>ℓ.ren fb=none):=by
  refine ⟨hE.K,fun b ℓ q hl h=>⟨by simp only [Gf,hfor b ℓ q h hl,h],(hold b ℓ q h (hfor b ℓ q h hl)).1⟩,fun a ha => ?_,by simp only [Gf];omega⟩;simp only [Gf];rw [if_pos (by omega)]
 refine ⟨v,Gf,rfl,hv.ren hrn3 hr rfl,⟨⟨fun b ℓ' q h => ?_⟩,?_,fun j ob' hob => ?_,R3.kept,fun b ℓ' q h => ?_⟩,⟨hE.K,fun x v h => ?_,fun b hb h => ?_,hE.size,fun i hi => ?_,hE.io⟩⟩
 ·rcases hO' h with ⟨_,h⟩ | ⟨ℓ,h2,h3⟩
  ·exact R.sane.no b ℓ' q h
  have:=R3.sane.no b ℓ q h2;cases ℓ <;> simp only [Loc.ren,Option.map_eq_some_iff,zp3] at h3 <;> first | (obtain ⟨x,_,rfl⟩:=h3;simp [Loc.root];done) | (subst h3;exact this)
 ·simp only [Gf,List.length_append,lB,lN,List.length_drop]
 ·rcases Nat.lt_or_ge j B.length with hj | hj
  ·rw [zp7 hj] at hob;rcases gB j ob' hob with ⟨h2,h3⟩ | ⟨i,o,h2,h3,h4⟩
   ·rw [Nat.zero_add] at h2;have h2':fb j=none:=h2;exact (R.objs j ob' h3).pres R.sane (by omega) hpr (by simp [Loc.ren,h2']) (fun _=>by simp [Loc.ren,h2'])
   rw [Nat.zero_add] at h2 h4;obtain ⟨_,h5⟩:=a2M h2;rw [Nat.sub_zero] at h5;have hi:i<sel.length:=(zp2.1 h5).1;refine (R3.objs i o h3).ren (by rw [<-R3.nh];exact (zp2.1 h3).1) hrn3 ?_ h4;simp only [fw,b0m,if_pos hi,h5]
  rw [zp8 hj] at hob;obtain ⟨o,h2,h3⟩:=gN _ _ hob;rw [List.getElem?_drop] at h2;rw [lB] at h2 h3;have hjj:Hb.length+(j-Hb.length)=j:=by omega
  rw [hjj] at h3;refine (R3.objs _ o h2).ren (by rw [<-R3.nh];exact (zp2.1 h2).1) hrn3 ?_ h3;simp only [fw,b0m];rw [if_neg (by omega)];congr 1;omega
 ·rcases hO' h with ⟨h2,h⟩ | ⟨ℓ,h2,h3⟩
  ·obtain ⟨h4,h5⟩:=R.disj b ℓ' q h;refine ⟨Nat.lt_of_lt_of_le h4 hE.size,fun j hj => ?_⟩;cases hK:Gf.K ⟨b,j,none⟩ with
   | none=>rfl
   | some x =>
     rcases hE.new ⟨b,j,none⟩ x hK with h6 | ⟨p,h6⟩ | h6
     ·rw [show G1.K=G.K from rfl,h5 j hj] at h6;cases h6
     ·rw [h2] at h6;cases h6
     simp at h6;omega
  exact R3.disj b ℓ q h2
 ·rcases hE.new x v h with h | ⟨p,h⟩ | h
  ·exact .inl h
  ·obtain ⟨ℓ,q⟩:=p;obtain ⟨ℓ0,h2,_⟩:=hO1 h;exact .inr (.inl ⟨_,h2⟩)
  exact .inr (.inr h)
 ·have h2:G1.O b=none:=by simp only [G1,h]
  obtain ⟨h3,h4⟩:=hE.others b hb h2;exact ⟨h3,by simp only [Gf,h2,h,h4]⟩
 simp only [Gf];rw [if_pos (by omega)]
set_option maxHeartbeats 2000000
section
variable {P:Program} {T:a0l} {m:Nat} {Q:Exit->St->Prop} {σ:St} {ops:Array Oper} {o:Oper} {l:List Oper}
end
section
variable {P:Program} {m:Nat} {Q:Exit->St->Prop} {σ:St} {c:Code} {R:St->Prop}
def AExit.onW (m:Nat) (R:St->Prop) (Q:Exit->St->Prop):Exit->St->Prop
 | .normal,σ => ∃ σ1,Wk m σ σ1/\R σ1
 | e,σ=>Q e σ
def AExit.onXW (m j:Nat) (R:St->Prop) (Q:Exit->St->Prop):Exit->St->Prop
 | .exit i,σ=>if i=j then ∃ σ1,Wk m σ σ1/\R σ1 else Q (.exit i) σ
 | e,σ=>Q e σ
theorem AWp.cutW (R:St->Prop) (h:AWp P m c (AExit.onW m R Q) σ) (h2 : ∀ τ,R τ->Q .normal τ):AWp P m c Q σ:=by
 intro r n G a w hm' R0;refine wpIn_mono (h r n G a w hm' R0) ?_;rintro e a' w' ⟨σ',G',R',hE,hm'',hQ⟩;cases e with
 | normal =>
   obtain ⟨σ1,hw,hR⟩:=hQ;obtain ⟨G2,R2,hE2,hm2⟩:=hw _ _ _ hm'' R';exact ⟨σ1,G2,R2,hE.trans hE2,hm2,h2 _ hR⟩
 | _=>exact ⟨σ',G',R',hE,hm'',hQ⟩
theorem AWp.cutXW (j:Nat) (R:St->Prop) (h:AWp P m c (AExit.onXW m j R Q) σ) (h2 : ∀ τ,R τ->Q (.exit j) τ):AWp P m c Q σ:=by
 intro r n G a w hm' R0;refine wpIn_mono (h r n G a w hm' R0) ?_;rintro e a' w' ⟨σ',G',R',hE,hm'',hQ⟩;cases e with
 | exit i =>
   simp only [AExit.onXW] at hQ;split at hQ
   ·rename_i hi;subst hi;obtain ⟨σ1,hw,hR⟩:=hQ;obtain ⟨G2,R2,hE2,hm2⟩:=hw _ _ _ hm'' R';exact ⟨σ1,G2,R2,hE.trans hE2,hm2,h2 _ hR⟩
   exact ⟨σ',G',R',hE,hm'',hQ⟩
 | _=>exact ⟨σ',G',R',hE,hm'',hQ⟩
theorem oWi (h : ∃ σ1,Wk m σ σ1/\R σ1):AExit.onW m R Q .normal σ:=h
theorem a7Z {j:Nat} (h : ∃ σ1,Wk m σ σ1/\R σ1):AExit.onXW m j R Q (.exit j) σ:=by simp only [AExit.onXW,if_true];exact h
theorem c3p {j:Nat} (h:Q .ret σ):AExit.onXW m j R Q .ret σ:=h
theorem Wk.fitS {ts:List Nat} (sf:List Nat) {k:Nat} (hm:m<=k) (hf:σ.fits ts k=true):Wk m σ (σ.fitS ts sf k) :=
 fun G a w _ R=>⟨{ G with nh:=k },R.fitS sf hf,(Ext.refl m G w).nh k,hm⟩
theorem AWp.iterW {S X:Type} {step:S->Option (S⊕X)} {s0:S} {x:X} (hx:Am.iter step s0=some x) (F:S->St) (hf : ∃ σ1,Wk m σ σ1/\σ1=F s0)
  (h : ∀ s e,step s=some e->AWp P m c (AExit.then (fun σ' => ∃ s',e = .inl s' /\ ∃ σ1,Wk m σ' σ1/\σ1=F s') (fun ex σ' => ∃ x',e = .inr x'/\(x'=x->Q ex σ'))) (F s)):AWp P m (.loop c) Q σ:=by
 obtain ⟨n,hn⟩:=a7u hx;obtain ⟨σ1,hw,rfl⟩:=hf;refine AWp.weak hw ?_;refine AWp.loop (ι:={ i:S×Nat // itN step i.2 i.1=some x }) (fun i=>i.1.2) (fun i=>F i.1.1) ⟨(s0,n),hn⟩ ?_;rintro ⟨⟨s,n⟩,hi⟩;cases n with
 | zero=>cases hi
 | succ n =>
   simp only [itN] at hi;obtain ⟨e,he,hi⟩:=a0a hi;intro r n' G a w hm' R;refine wpIn_mono (h s e he r n' G a w hm' R) ?_;rintro ex a' w' ⟨σ',G',R',hE,hm'',hq⟩;cases ex with
   | normal =>
     obtain ⟨s',rfl,σ2,hw2,h2⟩:=hq;obtain ⟨G2,R2,hE2,hm2⟩:=hw2 _ _ _ hm'' R';exact ⟨σ2,G2,R2,hE.trans hE2,hm2,⟨(s',n),hi⟩,Nat.lt_succ_self _,h2⟩
   | _=>obtain ⟨x',rfl,h1⟩:=hq;exact ⟨σ',G',R',hE,hm'',h1 (soI hi)⟩
end
theorem Wk.settleS {m:Nat} {σ:St} (s:Nat) {k:Nat} {l:List D} (hc:(σ.get s).freshOf=some (k,l)) (hlt:s<σ.n) :
  Wk m σ { σ with env:=eset σ.env s (.gref σ.heap.length k),heap:=σ.heap++[.gro k l,.dead,.dead] }:=by
 intro G a w hm R;have h0:=R.slots s;have hbx:(σ.get s).isBox=false:=by
  generalize σ.get s=c at hc;cases c <;> first | rfl | (simp [AV.freshOf] at hc)
 obtain ⟨p,cap,hv,hu,hl,hb⟩:=b1c h0 hc;have R1:=R.reSlot (s:=s) (c := .junk) (by rw [hv];exact .junk _ _ rfl) rfl hbx;obtain ⟨b,hb'⟩ : ∃ b,0<cap->p=some ⟨b,0,none⟩/\G.O b=some (.s s,0) /\ ∃ vs e,w.heap[b]?=some (.cells vs e (0,0))/\cap*k<=vs.size /\
   (∀ j,j<(D.flat l).length->(vs.getD j Go.undef).oneCell'=true) /\ ∀ (j:Nat) (hj:j<(D.flat l).length),RepD G.K (D.flat l)[j] (vs.getD j Go.undef):=by
  rcases Nat.eq_zero_or_pos cap with h | h
  ·exact ⟨0,fun h'=>by omega⟩
  obtain ⟨b,vs,e,q1,q2,q3,q4,q5,q6⟩:=hb h;exact ⟨b,fun _=>⟨q1,q2,vs,e,q3,q4,q5,q6⟩⟩
 obtain ⟨R2,hE,hrep⟩:=R1.toGro (w':=w) (k:=k) (l:=l) (cap:=cap) (b:=b) (p:=p) (fun hc=>(hb' hc).1) hu hl (Nat.le_refl _) ⟨rfl,rfl,fun _ _=>rfl,rfl,Nat.le_refl _⟩ (fun _ _ _=>rfl)
  (fun hc=>by
   obtain ⟨q1,q2,vs,e,q3,q4⟩:=hb' hc;refine ⟨(Array.getElem?_eq_some_iff.1 q3).1,.inr ⟨_,q2,?_⟩,vs,e,q3,q4⟩;show ((eset σ.env s .junk |> fun e=>({ σ with env:=e }:St)).get s).free=true
   simp [St.get,a0e,AV.free])
 have R3:=R2.reSlot (s:=s) (c := .gref σ.heap.length k) (by rw [hv];exact hrep _) rfl (by simp [St.get,a0e,AV.isBox]);refine ⟨_,?_,hE m hm,?_⟩
 ·refine R3.alike ⟨fun t => ?_,rfl,rfl⟩;simp only [St.get,a0e];split <;> rfl
 have:=R.h.nh;simp only [Gh.gro];omega
theorem Wk.groArr {m:Nat} {σ:St} (s:Nat) {q k:Nat} {l:List D} {n:Int} (hs:σ.get s = .gref q k) (hq:σ.heap[q]?=some (.gro k l)) (hl:l≠[]) (hn:(l.length:Int)=n) :
  Wk m σ { σ with env:=eset σ.env s (.mref q k 0 n),heap:=σ.heap.set q (.arr k l) }:=by
 intro G a w hm R;have hv:=R.slots s;rw [hs] at hv;have hil:q<σ.heap.length:=(zp2.1 hq).1;have hpos:0<l.length:=List.length_pos_iff.2 hl;generalize hvv:a.tmps.getD s Go.undef=v at hv;cases hv with | gref _ _ _ p ha hc hp =>
 obtain ⟨g0,g1,g2,g3,g4⟩:=R.h.objs q _ hq;obtain ⟨vs,e,h1,h2,h3,h4,h5⟩:=g4 (by omega);have hfl:=a0b g3;have hmul:l.length*k<=G.β (.o (q+1))*k:=Nat.mul_le_mul_right _ g2;have R':RelH G (σ.heap.set q (.arr k l)) w:=by
  refine ⟨R.h.sane,by simpa using R.h.nh,fun j ob hob => ?_,R.h.kept,R.h.disj⟩;by_cases hij:q=j
  ·subst hij;rw [List.getElem?_set_self hil] at hob;cases hob;exact ⟨vs,e,h1,h2,g3,by omega,h4,h5⟩
  rw [List.getElem?_set_ne hij] at hob;exact R.h.objs j ob hob
 obtain rfl:=hp (by omega);have R2:Rel G { σ with heap:=σ.heap.set q (.arr k l) } a w:=⟨R',R.size,R.slots,R.places,R.df⟩
 have hmr:RepV G w (.s s) (.mref q k 0 n) (.slice (some ⟨G.β (.o q),0,none⟩) (G.β (.o (q+2))) (G.β (.o (q+1)))):=by
  have:=RepV.mref (G:=G) (w:=w) (.s s) q k 0 (l.length:Int) (G.β (.o q)) 0 (G.β (.o (q+1))) (by omega) (Int.le_refl _) (by omega) (by simpa using g2) (fun _=>⟨rfl,by simp⟩);rw [<-g1,<-hn];simpa using this
 have R3:=R2.reSlot (s:=s) (c := .mref q k 0 n) (by rw [hvv];exact hmr) rfl (by show (σ.get s).isBox=false;rw [hs];rfl);exact ⟨G,R3,Ext.refl _ _ _,hm⟩
theorem Rel.reJag {G:Gh} {σ:St} {a:Act} {w:World} (R:Rel G σ a w) {i k:Nat} {l l':List D} {o o':Option (Int×AV)} (hi:σ.heap[i]?=some (.jag k l o)) (hll:l'.length=l.length) (hu : ∀ x∈l',∃ y,x = .list k y) (ho : ∀ p,o'=some p->p.2.isCell=true/\p.2.free=true)
  (hent : ∀ vs e,0<G.β (.o (i+1))->w.heap[G.β (.o i)]?=some (.cells vs e (0,0))->(∀ (j:Nat) (hj:j<l.length),RepV G w (.oc i j) (a2y k o j l[j]) (vs.getD j Go.undef)) -> ∀ (j:Nat) (hj:j<l'.length),RepV G w (.oc i j) (a2y k o' j l'[j]) (vs.getD j Go.undef)) :
  Rel G { σ with heap:=σ.heap.set i (.jag k l' o') } a w:=by
 refine ⟨⟨R.h.sane,by simpa using R.h.nh,fun x ob hob => ?_,R.h.kept,R.h.disj⟩,R.size,R.slots,R.places,R.df⟩;by_cases hx:i=x
 ·subst hx;simp only at hob;rw [List.getElem?_set_self (zp2.1 hi).1] at hob;injection hob with hob;subst hob
  obtain ⟨g0,g1,g2,g3,go,g4⟩:=R.h.objs i _ hi;refine ⟨g0,by rw [hll];exact g1,by rw [hll];exact g2,hu,ho,fun hc => ?_⟩;obtain ⟨vs,e,h1,h2,h3,h4⟩:=g4 hc;exact ⟨vs,e,h1,h2,h3,hent vs e hc h2 h4⟩
 rw [List.getElem?_set_ne hx] at hob;exact R.h.objs x ob hob
theorem a3m {k:Nat} {t:Int} {x:AV} {d:D}:a2y k (some (t,x)) t.toNat d=x:=by simp [a2y]
theorem a4J {k j:Nat} {t:Int} {x:AV} {d:D} (h:j≠t.toNat):a2y k (some (t,x)) j d=frA k d:=by simp [a2y,h]
theorem Wk.openG {m:Nat} {σ:St} (i:Nat) (z:Int) {k:Nat} {l y:List D} (hi:σ.heap[i]?=some (.jag k l none)) (hz:0<=z) (hy:l[z.toNat]?=some (.list k y)) :
  Wk m σ { σ with heap:=σ.heap.set i (.jag k l (some (z,.gref σ.heap.length k)))++[.gro k y,.dead,.dead] }:=by
 intro G a w hm R;obtain ⟨g0,g1,g2,g3,go,g4⟩:=R.h.objs i _ hi;have hjl:z.toNat<l.length:=(zp2.1 hy).1;have hly:l[z.toNat] = .list k y:=(zp2.1 hy).2;have hil:i<σ.heap.length:=(zp2.1 hi).1;obtain ⟨vs,e,o1,o2,o3,o4⟩:=g4 (by omega);have h0:=o4 z.toNat hjl;rw [hly] at h0;simp only [a2y,frA,if_true] at h0;generalize hvv:vs.getD z.toNat Go.undef=v at h0;cases h0 with | fresh _ _ _ _ h0 =>
 obtain ⟨p,cap,hv,hu,hl,hb⟩:=h0;have R1:=R.reJag (l':=l) (o':=some (z,.junk)) hi rfl g3 (fun p e=>by cases e;exact ⟨rfl,rfl⟩) (fun vs' e' _ hw' hold j hj=>by
  rw [o2] at hw';cases hw';by_cases hjz:j=z.toNat
  ·subst hjz;rw [a3m,hvv,hv];exact .junk _ _ rfl
  rw [a4J hjz];exact hold j hj)
 obtain ⟨b,hb'⟩ : ∃ b,0<cap->p=some ⟨b,0,none⟩/\G.O b=some (.oc i z.toNat,0) /\ ∃ vs e,w.heap[b]?=some (.cells vs e (0,0))/\cap*k<=vs.size /\
   (∀ j,j<(D.flat y).length->(vs.getD j Go.undef).oneCell'=true) /\ ∀ (j:Nat) (hj:j<(D.flat y).length),RepD G.K (D.flat y)[j] (vs.getD j Go.undef):=by
  rcases Nat.eq_zero_or_pos cap with h | h
  ·exact ⟨0,fun h'=>by omega⟩
  obtain ⟨b,vs,e,q1,q2,q3,q4,q5,q6⟩:=hb h;exact ⟨b,fun _=>⟨q1,q2,vs,e,q3,q4,q5,q6⟩⟩
 have hN:({ σ with heap:=σ.heap.set i (.jag k l (some (z,.junk))) }:St).heap.length=σ.heap.length:=by simp
 obtain ⟨R2,hE,hrep⟩:=R1.toGro (w':=w) (k:=k) (l:=y) (cap:=cap) (b:=b) (p:=p) (fun hc=>(hb' hc).1) hu hl (Nat.le_refl _) ⟨rfl,rfl,fun _ _=>rfl,rfl,Nat.le_refl _⟩ (fun _ _ _=>rfl)
  (fun hc=>by
   obtain ⟨q1,q2,vs,e,q3,q4⟩:=hb' hc;exact ⟨(Array.getElem?_eq_some_iff.1 q3).1,.inr ⟨_,q2,.inr ⟨k,l,z,.junk,by simp [hil],rfl⟩⟩,vs,e,q3,q4⟩)
 rw [hN] at R2 hE hrep;have hβ:(G.gro σ.heap.length b cap y.length).β (.o i)=G.β (.o i):=by
  simp only [Gh.gro,Root.o.injEq];rw [if_neg (by omega),if_neg (by omega),if_neg (by omega)]
 have R3:=R2.reJag (i:=i) (k:=k) (l:=l) (l':=l) (o:=some (z,.junk)) (o':=some (z,.gref σ.heap.length k)) (by simp [zp7,hil]) rfl g3 (fun p e=>by cases e;exact ⟨rfl,rfl⟩) (fun vs' e' _ hw' hold j hj=>by
  rw [hβ,o2] at hw';cases hw';by_cases hjz:j=z.toNat
  ·subst hjz;rw [a3m,hvv,hv];exact hrep _
  have:=hold j hj;rw [a4J hjz] at this ⊢;exact this)
 refine ⟨_,?_,hE m hm,?_⟩
 ·have:(σ.heap.set i (Obj.jag k l (some (z,.junk)))++[Obj.gro k y,.dead,.dead]).set i (.jag k l (some (z,.gref σ.heap.length k)))=σ.heap.set i (.jag k l (some (z,.gref σ.heap.length k)))++[.gro k y,.dead,.dead]:=by
   rw [List.set_append_left _ _ (by simpa using hil),List.set_set]
  rw [this] at R3;exact R3
 have:=R.h.nh;simp only [Gh.gro];omega
theorem Wk.openR {m:Nat} {σ:St} (i:Nat) (z:Int) {k:Nat} {l y:List D} {n:Int} (hi:σ.heap[i]?=some (.jag k l none)) (hz:0<=z) (hy:l[z.toNat]?=some (.list k y)) (hne:y≠[]) (hn:(y.length:Int)=n) :
  Wk m σ { σ with heap:=σ.heap.set i (.jag k l (some (z,.mref σ.heap.length k 0 n)))++[.arr k y,.dead,.dead] }:=by
 intro G a w hm R;obtain ⟨G1,R1,hE,hm1⟩:=Wk.openG i z hi hz hy G a w hm R;have hil:i<σ.heap.length:=(zp2.1 hi).1;have hpos:0<y.length:=List.length_pos_iff.2 hne;have hi1:({ σ with heap:=σ.heap.set i (.jag k l (some (z,.gref σ.heap.length k)))++[.gro k y,.dead,.dead] }:St).heap[i]?=some (.jag k l (some (z,.gref σ.heap.length k))):=by
  simp [zp7,hil]
 obtain ⟨j0,j1,j2,j3,jo,j4⟩:=R1.h.objs i _ hi1;have hjl:z.toNat<l.length:=(zp2.1 hy).1;obtain ⟨vs0,e0,o1,o2,o3,o4⟩:=j4 (by omega);have hrep:=o4 _ hjl;rw [a3m] at hrep;generalize hvv:vs0.getD z.toNat Go.undef=v at hrep;cases hrep with | gref _ _ _ p ha hc hp =>
 have hq:({ σ with heap:=σ.heap.set i (.jag k l (some (z,.gref σ.heap.length k)))++[.gro k y,.dead,.dead] }:St).heap[σ.heap.length]?=some (.gro k y):=by
  simp
 obtain ⟨g0,g1,g2,g3,g4⟩:=R1.h.objs σ.heap.length _ hq;obtain ⟨vs,e,h1,h2,h3,h4,h5⟩:=g4 (by omega);have hfl:=a0b g3;have hmul:y.length*k<=G1.β (.o (σ.heap.length+1))*k:=Nat.mul_le_mul_right _ g2;obtain rfl:=hp (by omega);have R2:Rel G1 { σ with heap:=σ.heap.set i (.jag k l (some (z,.gref σ.heap.length k)))++[.arr k y,.dead,.dead] } a w:=by
  refine ⟨⟨R1.h.sane,by simpa using R1.h.nh,fun j ob hob => ?_,R1.h.kept,R1.h.disj⟩,R1.size,R1.slots,R1.places,R1.df⟩;by_cases hjN:j=σ.heap.length
  ·subst hjN;simp at hob;subst hob;exact ⟨vs,e,h1,h2,g3,by omega,h4,h5⟩
  refine R1.h.objs j ob ?_;rw [<-hob];simp only;rcases Nat.lt_or_ge j σ.heap.length with h | h
  ·rw [zp7 (by simpa using h),zp7 (by simpa using h)]
  rw [zp8 (by simpa using h),zp8 (by simpa using h)];simp only [List.length_set];rw [show j-σ.heap.length=(j-σ.heap.length-1)+1 by omega];simp
 have hmr:RepV G1 w (.oc i z.toNat) (.mref σ.heap.length k 0 n) (.slice (some ⟨G1.β (.o σ.heap.length),0,none⟩) (G1.β (.o (σ.heap.length+2))) (G1.β (.o (σ.heap.length+1)))):=by
  have:=RepV.mref (G:=G1) (w:=w) (.oc i z.toNat) σ.heap.length k 0 (y.length:Int) (G1.β (.o σ.heap.length)) 0 (G1.β (.o (σ.heap.length+1))) (by omega) (Int.le_refl _) (by omega) (by simpa using g2) (fun _=>⟨rfl,by simp⟩);rw [<-g1,<-hn];simpa using this
 have R3:=R2.reJag (i:=i) (k:=k) (l:=l) (l':=l) (o:=some (z,.gref σ.heap.length k)) (o':=some (z,.mref σ.heap.length k 0 n)) (by simp [zp7,hil]) rfl j3 (fun p e=>by cases e;exact ⟨rfl,rfl⟩) (fun vs' e' _ hw' hold j hj=>by
  rw [o2] at hw';cases hw';by_cases hjz:j=z.toNat
  ·subst hjz;rw [a3m,hvv];exact hmr
  have:=hold j hj;rw [a4J hjz] at this ⊢;exact this)
 refine ⟨G1,?_,hE,hm1⟩;have:(σ.heap.set i (Obj.jag k l (some (z,.gref σ.heap.length k)))++[Obj.arr k y,.dead,.dead]).set i (.jag k l (some (z,.mref σ.heap.length k 0 n)))=σ.heap.set i (.jag k l (some (z,.mref σ.heap.length k 0 n)))++[.arr k y,.dead,.dead]:=by
  rw [List.set_append_left _ _ (by simpa using hil),List.set_set]
 rw [this] at R3;exact R3
theorem Wk.shutG {m:Nat} {σ:St} (i:Nat) {q k:Nat} {z:Int} {l y:List D} (hi:σ.heap[i]?=some (.jag k l (some (z,.gref q k)))) (hq:σ.heap[q]?=some (.gro k y)) (hz:z.toNat<l.length) :
  Wk m σ { σ with heap:=(σ.heap.set q .dead).set i (.jag k (l.set z.toNat (.list k y)) none) }:=by
 intro G a w hm R;have hiq:q≠i:=by rintro rfl;rw [hq] at hi;cases hi
 obtain ⟨g0,g1,g2,g3,go,g4⟩:=R.h.objs i _ hi;obtain ⟨vs,e,o1,o2,o3,o4⟩:=g4 (by omega);have hrep:=o4 _ hz;rw [a3m] at hrep;generalize hvv:vs.getD z.toNat Go.undef=v at hrep;cases hrep with | gref _ _ _ p ha hc hp =>
 obtain ⟨q0,q1,q2,q3,q4⟩:=R.h.objs q _ hq;have R1:=R.kill q;have hdead:lets { σ with heap:=σ.heap.set q .dead } (.o q):=by
  simp only [lets];rw [List.getElem?_set_self (zp2.1 hq).1]
 obtain ⟨R2,hext,hfr⟩:=R1.toLoc (.oc i z.toNat) (by simp [Loc.root]) (w':=w) (k:=k) (l:=y) (cap:=G.β (.o (q+1))) (b:=G.β (.o q)) (p:=p) hp q3 q2 (Nat.le_refl _)
  ⟨rfl,rfl,fun _ _=>rfl,rfl,Nat.le_refl _⟩ (fun _ _ _=>rfl) (fun hc=>by
   obtain ⟨vs,e',h1,h2,h3,h4,h5⟩:=q4 hc;exact ⟨(Array.getElem?_eq_some_iff.1 h2).1,.inr ⟨_,h1,hdead⟩,vs,e',h2,h3,h4,h5⟩)
 have R3:=R2.reJag (i:=i) (k:=k) (l:=l) (l':=l.set z.toNat (.list k y)) (o:=some (z,.gref q k)) (o':=none) (by simp only;rw [List.getElem?_set_ne hiq];exact hi) (by simp) (fun x hx=>by
   rcases List.mem_or_eq_of_mem_set hx with hx | rfl
   ·exact g3 x hx
   exact ⟨y,rfl⟩) (fun p e=>by cases e) (fun vs' e' _ hw' hold j hj=>by
  have hβ:(G.give (G.β (.o q)) (G.β (.o (q+1))) (.oc i z.toNat)).β=G.β:=rfl;rw [hβ,o2] at hw';cases hw';by_cases hjz:j=z.toNat
  ·subst hjz;rw [List.getElem_set_self];simp only [a2y,frA,if_true];rw [hvv,<-q1];exact .fresh _ _ _ _ hfr
  rw [List.getElem_set_ne (Ne.symm hjz)];have hj':j<l.length:=by simpa using hj
  have:=hold j hj';rw [a4J hjz] at this;exact this)
 exact ⟨_,R3,hext m hm,hm⟩
theorem Wk.frzE {m:Nat} {σ:St} (i:Nat) {q k:Nat} {z lo n:Int} {l y y':List D} (hi:σ.heap[i]?=some (.jag k l (some (z,.mref q k lo n)))) (hq:σ.heap[q]?=some (.arr k y)) (hz:z.toNat<l.length) (hfit:lo+n<=y.length) (hl:Ar.std.sub y lo (lo+n)=y') :
  Wk m σ { σ with heap:=(σ.heap.set q .dead).set i (.jag k l (some (z,.d (.list k y')))) }:=by
 intro G a w hm R;have hiq:q≠i:=by rintro rfl;rw [hq] at hi;cases hi
 obtain ⟨g0,g1,g2,g3,go,g4⟩:=R.h.objs i _ hi;obtain ⟨vs,e,o1,o2,o3,o4⟩:=g4 (by omega);have hrep:=o4 _ hz;rw [a3m] at hrep;obtain ⟨G',R1,hd,hE,hpr,hβ⟩:=R.h.freezeP hrep hq hfit;rw [hl] at hd;have R2:=R.ofPres R1 hpr hβ;have R3:=R2.reJag (i:=i) (k:=k) (l:=l) (l':=l) (o:=some (z,.mref q k lo n)) (o':=some (z,.d (.list k y'))) (by simp only;rw [List.getElem?_set_ne hiq];exact hi) rfl g3 (fun p e=>by cases e;exact ⟨rfl,rfl⟩) (fun vs' e' _ hw' hold j hj=>by
  rw [hβ,o2] at hw';cases hw';by_cases hjz:j=z.toNat
  ·subst hjz;rw [a3m];exact .d _ _ _ hd
  have:=hold j hj;rw [a4J hjz] at this ⊢;exact this)
 refine ⟨G',R3,hE m,?_⟩;have h1:=R1.nh;have h2:=R.h.nh;simp at h1;omega
def a2w (i:Nat):Loc->Bool
 | .o j=>j == i
 | .oc j _=>j == i
 | _=>false
def Gh.own1 (G:Gh) (i b:Nat):Bool:=match G.O b with | some (ℓ,_)=>a2w i ℓ | none=>false
def Gh.frz (G:Gh) (w:World) (i:Nat):Gh :=
 { G with K:=fun x=>if G.own1 i x.block then w.cell? x else G.K x,O:=fun b=>if G.own1 i b then none else G.O b }
theorem Rel.frzAll {G:Gh} {σ:St} {a:Act} {w:World} (R:Rel G σ a w) (i:Nat):Rel (G.frz w i) { σ with heap:=σ.heap.set i .dead } a w/\(∀ m,Ext m G w (G.frz w i) w)/\KLe G.K (G.frz w i).K:=by
 have hKle:KLe G.K (G.frz w i).K:=by
  intro x v h;simp only [Gh.frz];split
  ·exact R.h.kept x v h
  exact h
 have hOold : ∀ b ℓ f,a2w i ℓ=false->G.O b=some (ℓ,f)->(G.frz w i).O b=some (ℓ,f):=by
  intro b ℓ f hℓ h;simp only [Gh.frz];rw [if_neg (by simp [Gh.own1,h,hℓ])];exact h
 have hpr:Pres G (G.frz w i) w w (fun ℓ=>a2w i ℓ=false):=⟨hKle,fun b ℓ f hl h=>⟨hOold b ℓ f hl h,rfl⟩,fun _ _=>rfl,Nat.le_refl _⟩;have hO' : ∀ b ℓ f,(G.frz w i).O b=some (ℓ,f)->G.O b=some (ℓ,f)/\G.own1 i b=false:=by
  intro b ℓ f h;simp only [Gh.frz] at h;split at h
  ·cases h
  rename_i hn;exact ⟨h,by simpa using hn⟩
 refine ⟨⟨⟨⟨fun b ℓ f h=>R.h.sane.no b ℓ f (hO' b ℓ f h).1⟩,by simpa [Gh.frz] using R.h.nh,fun j ob hob => ?_,fun x v h => ?_,fun b ℓ f h => ?_⟩,R.size,fun t => ?_,R.places,R.df.1,fun d hd => ?_⟩,fun m=>⟨hKle,fun x v h => ?_,fun b hb h=>⟨rfl,?_⟩,Nat.le_refl _,fun _ _=>rfl,rfl,rfl,fun _ _=>rfl,rfl,Nat.le_refl _⟩,hKle⟩
 ·by_cases hij:i=j
  ·subst hij;have:ob = .dead:=by
    rw [List.getElem?_set] at hob;simp at hob;exact hob.2.symm
   subst this;trivial
  rw [List.getElem?_set_ne hij] at hob;exact (R.h.objs j ob hob).pres R.h.sane (by rw [<-R.h.nh];exact (zp2.1 hob).1) hpr (by simp [a2w];exact fun e=>hij e.symm) (fun q=>by simp [a2w];exact fun e=>hij e.symm)
 ·simp only [Gh.frz] at h;split at h
  ·exact h
  exact R.h.kept x v h
 ·obtain ⟨h1,h2⟩:=hO' b ℓ f h;obtain ⟨h3,h4⟩:=R.h.disj b ℓ f h1;refine ⟨h3,fun j hj => ?_⟩;simp only [Gh.frz];rw [if_neg (by simp [h2])];exact h4 j hj
 ·exact (R.slots t).pres R.h.sane hpr (by simp [a2w]) (fun _ _ _=>rfl) (fun _ _ _=>⟨rfl,fun j=>by simp [a2w]⟩)
 ·obtain ⟨r0,h1,h2,h3⟩:=R.df.2 d hd;exact ⟨r0,h1,hOold _ _ _ (by simp [a2w]) h2,h3⟩
 ·simp only [Gh.frz] at h;split at h
  ·rename_i ho;simp only [Gh.own1] at ho;split at ho
   ·rename_i ℓ f hO;exact .inr (.inl ⟨_,hO⟩)
   cases ho
  exact .inl h
 simp only [Gh.frz];split
 ·rfl
 exact h
def b8N (k:Nat) (l:List D):Option (Int×AV)->Option (List D)
 | none=>some l
 | some (z,.d (.list k' y))=>if k'=k then some (l.set z.toNat (.list k y)) else none
 | _=>none
theorem Wk.frzJ {m:Nat} {σ:St} (s:Nat) {i k:Nat} {l l':List D} {o:Option (Int×AV)} (hs:σ.get s = .gref i 1) (hi:σ.heap[i]?=some (.jag k l o)) (ho:b8N k l o=some l') :
  Wk m σ { σ with env:=eset σ.env s (.d (.list 1 l')),heap:=σ.heap.set i .dead }:=by
 intro G a w hm R;have hv:=R.slots s;rw [hs] at hv;obtain ⟨g0,g1,g2,g3,go,g4⟩:=R.h.objs i _ hi;obtain ⟨R1,hE,hK⟩:=R.frzAll i;generalize hvv:a.tmps.getD s Go.undef=v at hv;cases hv with | gref _ _ _ p ha hc hp =>
 have hll:l'.length=l.length:=by
  unfold b8N at ho;split at ho
  ·cases ho;rfl
  ·split at ho
   ·cases ho;simp
   cases ho
  cases ho
 have hlist : ∀ x∈l',∃ y,x = .list k y:=by
  intro x hx;unfold b8N at ho;split at ho
  ·cases ho;exact g3 x hx
  ·split at ho
   ·cases ho;rcases List.mem_or_eq_of_mem_set hx with hx | rfl
    ·exact g3 x hx
    exact ⟨_,rfl⟩
   cases ho
  cases ho
 have hu:a0m 1 l':=fun x hx=>by obtain ⟨y,rfl⟩:=hlist x hx;rfl
 have hd:RepD (G.frz w i).K (.list 1 l') (.slice p (G.β (.o (i+2))) (G.β (.o (i+1)))):=by
  rcases Nat.eq_zero_or_pos (G.β (.o (i+1))) with h0 | h0
  ·have hl0:l'=[]:=List.eq_nil_of_length_eq_zero (by omega);have h2:G.β (.o (i+2))=0:=by omega
   rw [hl0,h0,h2];exact RepD.zero _ _ _
  ·obtain rfl:=hp h0;obtain ⟨vs,e,o1,o2,o3,o4⟩:=g4 h0;have hfl:=a0b hu;have hfe : ∀ (j:Nat) (hj:j<(D.flat l').length),∃ hj':j<l'.length,(D.flat l')[j]=l'[j]:=by
    intro j hj;have hj':j<l'.length:=by omega
    refine ⟨hj',?_⟩;have hfg:=a0A hu (i:=j) (y:=l'[j]) (zp1 hj') 0 (by omega);simp only [Nat.mul_one,Nat.add_zero] at hfg;rw [zp1 hj] at hfg;obtain ⟨y,hy⟩:=hlist _ (zp6 hj');rw [hy] at hfg ⊢;simpa [D.cells] using hfg

   have hent : ∀ (j:Nat) (hj:j<l'.length),RepD (G.frz w i).K l'[j] (vs.getD j Go.undef)/\(vs.getD j Go.undef).oneCell'=true:=by
    intro j hj;have hj0:j<l.length:=by omega
    have h5:=o4 j hj0

    have whole : ∀ y,RepV G w (.oc i j) (.fresh k y) (vs.getD j Go.undef)->RepD (G.frz w i).K (.list k y) (vs.getD j Go.undef)/\(vs.getD j Go.undef).oneCell'=true:=by
     intro y hy;refine ⟨?_,hy.oneCell rfl⟩;generalize vs.getD j Go.undef=v at hy;cases hy with | fresh _ _ _ _ hf =>
     obtain ⟨p',cap,rfl,f1,f2,f3⟩:=hf;rcases Nat.eq_zero_or_pos cap with hc0 | hc0
     ·have hy0:y=[]:=List.eq_nil_of_length_eq_zero (by omega);subst hy0 hc0;exact RepD.zero _ _ _
     obtain ⟨b,vs1,e1,rfl,q1,q2,q3,q4,q5⟩:=f3 hc0;have hfy:=a0b f1;have hmul:y.length*k<=cap*k:=Nat.mul_le_mul_right _ f2;refine RepD.list k y b 0 cap (fun q=>vs1.getD q Go.undef) f1 f2 (fun q hq => ?_) q4 (fun q hq=>(q5 q hq).mono hK);simp only [Gh.frz];rw [if_pos (by simp [Gh.own1,q1,a2w]),Nat.zero_add];exact a0P q2 (by omega)
    unfold b8N at ho;split at ho
    ·cases ho;obtain ⟨y,hy⟩:=g3 _ (zp6 hj0);rw [hy] at h5 ⊢;exact whole y (by simpa [a2y,frA] using h5)
    ·rename_i z k' y;split at ho
     ·rename_i hk;subst hk;cases ho;by_cases hjz:j=z.toNat
      ·subst hjz;rw [a3m] at h5;rw [List.getElem_set_self];refine ⟨?_,h5.oneCell rfl⟩;cases h5 with | d _ _ _ h5=>exact h5.mono hK
      rw [a4J hjz] at h5;rw [List.getElem_set_ne (Ne.symm hjz)];obtain ⟨y,hy⟩:=g3 _ (zp6 hj0);rw [hy] at h5 ⊢;exact whole y (by simpa [frA] using h5)
     cases ho
    cases ho
   have:=RepD.list (K:=(G.frz w i).K) 1 l' (G.β (.o i)) 0 (G.β (.o (i+1))) (fun q=>vs.getD q Go.undef) hu (by omega) (fun q hq=>by
     simp only [Gh.frz];rw [if_pos (by simp [Gh.own1,o1,a2w]),Nat.zero_add];exact a0P o2 (by omega)) (fun q hq=>(hent q (by omega)).2) (fun q hq=>by
     obtain ⟨hj',e1⟩:=hfe q hq;rw [e1];exact (hent q hj').1)
   rw [hll,g1] at this;exact this
 have R3:=R1.reSlot (s:=s) (c := .d (.list 1 l')) (by rw [hvv];exact .d _ _ _ hd) rfl (by show (σ.get s).isBox=false;rw [hs];rfl);exact ⟨_,R3,hE m,by simpa [Gh.frz] using hm⟩
theorem Wk.nilJag {m:Nat} {σ:St} (s k:Nat) (hc:(σ.get s).freshOf=some (1,[])) (hlt:s<σ.n) :
  Wk m σ { σ with env:=eset σ.env s (.gref σ.heap.length 1),heap:=σ.heap++[.jag k [] none,.dead,.dead] }:=by
 intro G a w hm R;obtain ⟨G1,R1,hE,hm1⟩:=Wk.settleS s hc hlt G a w hm R;have R2:=R1.groJag (i:=σ.heap.length) (k:=k) (l:=[]) (by simp) (fun x hx=>by simp at hx) (fun vs e _ _ j hj=>by simp at hj);refine ⟨G1,?_,hE,hm1⟩;have eset':(σ.heap++[Obj.gro 1 [],.dead,.dead]).set σ.heap.length (.jag k [] none)=σ.heap++[.jag k [] none,.dead,.dead]:=by
  rw [List.set_append_right _ _ (Nat.le_refl _)];simp
 simp only [eset'] at R2;exact R2
theorem b5U {A:Ar} (hA:A=Ar.std) {z:Int} (h:A.zle 0 z=true):0<=z:=by subst hA;simpa [Ar.std] using h
theorem b6Q {A:Ar} (hA:A=Ar.std) {z:Int} {l y:List D} {k:Nat} (h:A.lget l (A.nat z)=some ((cL k).en y)):l[z.toNat]?=some (.list k y):=by subst hA;simpa [Ar.std,cL] using h
theorem c2l {A:Ar} (hA:A=Ar.std) {y:List D} (h:A.zlt 0 (A.len y)=true):y≠[]:=by
 subst hA;rintro rfl;simp [Ar.std] at h
theorem c2m {A:Ar} (hA:A=Ar.std) {y:List D}:(y.length:Int)=A.len y:=by subst hA;rfl
theorem b6R {A:Ar} (hA:A=Ar.std) {z:Int} {l:List D} {d:D} (_:A.zle 0 z=true) (h:A.lget l (A.nat z)=some d):z.toNat<l.length:=by
 subst hA;have:l[z.toNat]?=some d:=by simpa [Ar.std] using h
 exact (zp2.1 this).1
theorem a2V {A:Ar} (hA:A=Ar.std) {z:Int} {l:List D} {d:D} (h0:A.zle 0 z=true) (h:A.lget l (A.nat z)=some d):A.zlt z (A.len l)=true:=by
 have h1:=b6R hA h0 h;have h2:=b5U hA h0;subst hA;simp [Ar.std];omega
theorem a1f {A:Ar} (hA:A=Ar.std) (z:Int):A.zeq z z=true:=by subst hA;simp [Ar.std]
theorem c0I {A:Ar} (hA:A=Ar.std) {z:Int} {k:Nat} {l l' y:List D} (h:some (A.lset l (A.nat z) (.list k y))=some l'):b8N k l (some (z,.d (.list k y)))=some l':=by
 subst hA;simpa [b8N,Ar.std] using h
theorem Wk.shutGA {A:Ar} (hA:A=Ar.std) {m:Nat} {σ:St} (i:Nat) {q k:Nat} {z:Int} {l y:List D} (hi:σ.heap[i]?=some (.jag k l (some (z,.gref q k)))) (hq:σ.heap[q]?=some (.gro k y)) (h0:A.zle 0 z=true) (hz:A.zlt z (A.len l)=true) :
  Wk m σ { σ with heap:=(σ.heap.set q .dead).set i (.jag k (A.lset l (A.nat z) (.list k y)) none) }:=by
 have h1:=b5U hA h0;subst hA
 exact Wk.shutG i hi hq (by have:z<(l.length:Int):=by simpa [Ar.std] using hz
                            omega)
theorem Wk.openGA {A:Ar} (hA:A=Ar.std) {m:Nat} {σ:St} (i:Nat) (z:Int) {k:Nat} {l y:List D} (hi:σ.heap[i]?=some (.jag k l none)) (h0:A.zle 0 z=true) (hy:A.lget l (A.nat z)=some ((cL k).en y)) :
  Wk m σ { σ with heap:=σ.heap.set i (.jag k l (some (z,.gref σ.heap.length k)))++[.gro k y,.dead,.dead] } :=
 Wk.openG i z hi (b5U hA h0) (b6Q hA hy)
end Go.Am
