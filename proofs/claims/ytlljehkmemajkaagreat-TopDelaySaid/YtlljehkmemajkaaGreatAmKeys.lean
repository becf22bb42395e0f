import Derived.Test.YtlljehkmemajkaaGreatAmLaw
set_option linter.unusedSimpArgs false
set_option linter.unusedSectionVars false
set_option linter.unusedVariables false
namespace Go.Am
open Go
section
variable {P:Program} {T:a0i}
variable {m:Nat} {Q:Exit->St->Prop} {σ:St} {ops:Array Oper} {o:Oper} {l:List Oper}
end
def Wk (m:Nat) (σ σ':St):Prop := ∀ (G:Gh) (a:Act) (w:World),m<=G.nh->Rel G σ a w -> ∃ G',Rel G' σ' a w/\Ext m G w G' w/\m<=G'.nh
section
variable {P:Program} {m:Nat} {Q:Exit->St->Prop} {σ σ':St} {c:Code} {ops:Array Oper} {l:List Oper}
theorem AWp.weak (h:Wk m σ σ') (k:AWp P m c Q σ'):AWp P m c Q σ:=by
 intro r n G a w hm R;obtain ⟨G',R',hE,hm'⟩:=h G a w hm R;exact wpIn_mono (k r n G' a w hm' R') (fun e a w hp=>hp.ext hE)
theorem Wk.refl:Wk m σ σ:=fun G _ _ hm R=>⟨G,R,Ext.refl _ _ _,hm⟩
theorem Wk.trans {σ'':St} (h:Wk m σ σ') (h':Wk m σ' σ''):Wk m σ σ'':=by
 intro G a w hm R;obtain ⟨G1,R1,hE1,hm1⟩:=h G a w hm R;obtain ⟨G2,R2,hE2,hm2⟩:=h' G1 a w hm1 R1;exact ⟨G2,R2,hE1.trans hE2,hm2⟩
end
def Loc.ren (f:Nat->Option Nat):Loc->Option Loc
 | .o i=>(f i).map .o
 | .oc i j=>(f i).map (.oc · j)
 | x=>some x
mutual
def AV.ren (f:Nat->Option Nat):AV->Option AV
 | .ptr a off=>match f a with | some x=>some (.ptr x off) | none=>none
 | .map a=>match f a with | some x=>some (.map x) | none=>none
 | .mref a k lo n=>match f a with | some x=>some (.mref x k lo n) | none=>none
 | .mcap a k lo n c=>match f a with | some x=>some (.mcap x k lo n c) | none=>none
 | .eptr a k i j=>match f a with | some x=>some (.eptr x k i j) | none=>none
 | .vptr a k i j m z=>match f a with | some x=>some (.vptr x k i j m z) | none=>none
 | .yield a=>match f a with | some x=>some (.yield x) | none=>none
 | .gref a k=>match f a,f (a+1),f (a+2) with
   | some x,some y,some z=>if y=x+1/\z=x+2 then some (.gref x k) else none
   | _,_,_=>none
 | .func fn as bs=>match b4N f as,b4N f bs with | some a,some b=>some (.func fn a b) | _,_=>none
 | .agg cs=>match b4N f cs with | some a=>some (.agg a) | none=>none
 | .tuple cs=>match b4N f cs with | some a=>some (.tuple a) | none=>none
 | .lbox cs=>match b4N f cs with | some a=>some (.lbox a) | none=>none
 | x=>some x
def b4N (f:Nat->Option Nat):List AV->Option (List AV)
 | []=>some []
 | c::r=>match c.ren f,b4N f r with | some x,some y=>some (x::y) | _,_=>none
end
theorem a2H {f:Nat->Option Nat} : ∀ {cs cs':List AV},b4N f cs=some cs'->cs'.length=cs.length /\ ∀ (i:Nat) (hi:i<cs.length) (hi':i<cs'.length),cs[i].ren f=some cs'[i]
 | [],cs',h=>by simp [b4N] at h;subst h;exact ⟨rfl,fun i hi=>by simp at hi⟩
 | c::r,cs',h=>by
   simp only [b4N] at h;split at h
   ·rename_i x y h1 h2;cases h;obtain ⟨h3,h4⟩:=a2H h2;refine ⟨by simp [h3],fun i hi hi' => ?_⟩;cases i with
    | zero=>simpa using h1
    | succ i=>simpa using h4 i (by simpa using hi) (by simpa using hi')
   cases h
theorem AV.ren_isCell {f:Nat->Option Nat} {c c':AV} (h:c.ren f=some c'):c'.isCell=c.isCell:=by
 cases c <;> simp only [AV.ren] at h
 all_goals (repeat' split at h)
 all_goals first
  | (cases h;rfl)
  | (cases h;simp_all [AV.isCell];done)
  | (simp_all;done)
theorem AV.ren_isLocal {f:Nat->Option Nat} {c c':AV} (h:c.ren f=some c'):c'.isLocal=c.isLocal:=by
 cases c <;> simp only [AV.ren] at h
 all_goals (repeat' split at h)
 all_goals first
  | (cases h;rfl)
  | (simp_all;done)
theorem AV.ren_frl {f:Nat->Option Nat} {c c':AV} (h:c.ren f=some c'):c'.frl=c.frl:=by
 cases c <;> simp only [AV.ren] at h
 all_goals (repeat' split at h)
 all_goals first
  | (cases h;rfl)
  | (simp_all;done)
theorem AV.ren_free {f:Nat->Option Nat} {c c':AV} (h:c.ren f=some c'):c'.free=c.free:=by
 cases c <;> simp only [AV.ren] at h
 all_goals (repeat' split at h)
 all_goals first
  | (cases h;rfl)
  | (simp_all;done)
structure Rn (f:Nat->Option Nat) (G G':Gh) (w w':World):Prop where
 K:KLe G.K G'.K
 O : ∀ (b:Nat) (ℓ ℓ':Loc) (q:Nat),ℓ.ren f=some ℓ'->G.O b=some (ℓ,q)->G'.O b=some (ℓ',q)/\w'.heap[b]?=w.heap[b]?
 β : ∀ a a',f a=some a'->a<G.nh->G'.β (.o a')=G.β (.o a)/\a'<G'.nh
 βs : ∀ t,G'.β (.s t)=G.β (.s t)
theorem b2k.ren {f:Nat->Option Nat} {G G':Gh} {w w':World} (hp:Rn f G G' w w') {ℓ ℓ':Loc} (hl:ℓ.ren f=some ℓ') {k:Nat} {v:Value} (ht:b2k G w ℓ k v):b2k G' w' ℓ' k v:=by
 intro a n cap hv hn;obtain ⟨fr,c,e,h1,h2,h3,h4⟩:=ht a n cap hv hn;obtain ⟨h5,h6⟩:=hp.O _ _ _ _ hl h1;exact ⟨fr,c,e,h5,h2,h6.trans h3,h4⟩
theorem a3s.ren {z:Bool} {f:Nat->Option Nat} {G G':Gh} {w w':World} (hp:Rn f G G' w w') {ℓ ℓ':Loc} (hl:ℓ.ren f=some ℓ') {k:Nat} {v:Value} (ht:a3s z G w ℓ k v):a3s z G' w' ℓ' k v:=by
 intro a n cap hv hn;obtain ⟨fr,c,e,h1,h2,h3,h4⟩:=ht a n cap hv hn;obtain ⟨h5,h6⟩:=hp.O _ _ _ _ hl h1;exact ⟨fr,c,e,h5,h2,h6.trans h3,h4⟩
theorem RepV.ren {f:Nat->Option Nat} {G G':Gh} {w w':World} {ℓ:Loc} {av:AV} {v:Value} (h:RepV G w ℓ av v) :
  ∀ {av':AV} {ℓ':Loc},Rn f G G' w w'->av.ren f=some av'->ℓ.ren f=some ℓ'->RepV G' w' ℓ' av' v:=by
 induction h with
 | undef ℓ v=>intro av' ℓ' hp he hl;simp [AV.ren] at he;subst he;exact .undef _ v
 | abool ℓ b=>intro av' ℓ' hp he hl;simp [AV.ren] at he;subst he;exact .abool _ b
 | d ℓ x v h=>intro av' ℓ' hp he hl;simp [AV.ren] at he;subst he;exact .d _ x v (h.mono hp.K)
 | ptr ℓ a off ha =>
   intro av' ℓ' hp he hl;simp only [AV.ren] at he;split at he
   ·rename_i x hx;cases he;obtain ⟨h1,h2⟩:=hp.β _ _ hx ha;rw [<-h1];exact .ptr _ _ _ h2
   cases he
 | nilptr ℓ=>intro av' ℓ' hp he hl;simp [AV.ren] at he;subst he;exact .nilptr _
 | iptr ℓ cs b off vs hK h1 h=>intro av' ℓ' hp he hl;simp [AV.ren] at he;subst he;exact .iptr _ cs b off vs (fun j hj=>hp.K _ _ (hK j hj)) h1 (fun j hj=>(h j hj).mono hp.K)
 | own ℓ k l v h ht=>intro av' ℓ' hp he hl;simp [AV.ren] at he;subst he;exact .own _ k l v (h.mono hp.K) (ht.ren hp hl)
 | lim ℓ k l v h ht=>intro av' ℓ' hp he hl;simp [AV.ren] at he;subst he;exact .lim _ k l v (h.mono hp.K) ht
 | tail ℓ k l v h ht=>intro av' ℓ' hp he hl;simp [AV.ren] at he;subst he;exact .tail _ k l v (h.mono hp.K) (ht.ren hp hl)
 | fresh ℓ k l v h=>intro av' ℓ' hp he hl;simp [AV.ren] at he;subst he;exact .fresh _ k l v (h.mono hp.K (fun b hO=>hp.O b _ _ 0 hl hO))
 | junk ℓ v h=>intro av' ℓ' hp he hl;simp [AV.ren] at he;subst he;exact .junk _ v h
 | func ℓ fn as bs va vb ha hb _ _ hc hc' ih ih' =>
   intro av' ℓ' hp he hl;simp only [AV.ren] at he;split at he
   ·rename_i a' b' h1 h2;cases he;obtain ⟨l1,g1⟩:=a2H h1;obtain ⟨l2,g2⟩:=a2H h2;refine .func _ fn a' b' va vb (by rw [l1];exact ha) (by rw [l2];exact hb) (fun i hi=>ih i (by omega) hp (g1 i (by omega) hi) rfl) (fun i hi=>ih' i (by omega) hp (g2 i (by omega) hi) rfl) (fun c hc0 => ?_) (fun c hc0 => ?_)
    ·obtain ⟨i,hi,rfl⟩:=List.mem_iff_getElem.1 hc0;rw [AV.ren_isLocal (g1 i (by omega) hi)];exact hc _ (zp6 _)
    obtain ⟨i,hi,rfl⟩:=List.mem_iff_getElem.1 hc0;rw [AV.ren_isLocal (g2 i (by omega) hi)];exact hc' _ (zp6 _)
   cases he
 | nilfunc ℓ=>intro av' ℓ' hp he hl;simp [AV.ren] at he;subst he;exact .nilfunc _
 | yield ℓ l hh =>
   intro av' ℓ' hp he hl;simp only [AV.ren] at he;split at he
   ·rename_i x hx;cases he;obtain ⟨h1,h2⟩:=hp.β _ _ hx hh;rw [<-h1];exact .yield _ _ h2
   cases he
 | map ℓ a ha =>
   intro av' ℓ' hp he hl;simp only [AV.ren] at he;split at he
   ·rename_i x hx;cases he;obtain ⟨h1,h2⟩:=hp.β _ _ hx ha;rw [<-h1];exact .map _ _ h2
   cases he
 | nilmap ℓ=>intro av' ℓ' hp he hl;simp [AV.ren] at he;subst he;exact .nilmap _
 | lbox t cs vs e hO hw hs _ hc ih =>
   intro av' ℓ' hp he hl;simp only [AV.ren] at he;split at he
   ·rename_i a' h1;cases he;simp [Loc.ren] at hl;subst hl;obtain ⟨l1,g1⟩:=a2H h1;obtain ⟨h3,h4⟩:=hp.O _ _ (.s t) _ rfl hO;rw [<-hp.βs t] at h3 h4 hw ⊢;refine .lbox t a' vs e h3 (h4.trans hw) (by rw [l1];exact hs) (fun j hj=>ih j (by omega) hp (g1 j (by omega) hj) rfl) (fun c hc0 => ?_);obtain ⟨i,hi,rfl⟩:=List.mem_iff_getElem.1 hc0;rw [AV.ren_isCell (g1 i (by omega) hi)];exact hc _ (zp6 _)
   cases he
 | place ℓ r off=>intro av' ℓ' hp he hl;simp [AV.ren] at he;subst he;rw [<-hp.βs r];exact .place _ r off
 | mref ℓ a k lo n b off cap ha h1 h2 h3 h4 =>
   intro av' ℓ' hp he hl;simp only [AV.ren] at he;split at he
   ·rename_i x hx;cases he;obtain ⟨q1,q2⟩:=hp.β _ _ hx ha;exact .mref _ _ k lo n b off cap q2 h1 h2 h3 (fun h=>by rw [q1];exact h4 h)
   cases he
 | mcap ℓ a k lo n c b off cap ha h1 h2 h3 h4 h5 =>
   intro av' ℓ' hp he hl;simp only [AV.ren] at he;split at he
   ·rename_i x hx;cases he;obtain ⟨q1,q2⟩:=hp.β _ _ hx ha;exact .mcap _ _ k lo n c b off cap q2 h1 h2 h3 h4 (fun h=>by rw [q1];exact h5 h)
   cases he
 | gref ℓ a k p ha hc hq =>
   intro av' ℓ' hp he hl;simp only [AV.ren] at he;split at he
   ·rename_i x y z hx hy hz;split at he
    ·rename_i hxy;obtain ⟨rfl,rfl⟩:=hxy;cases he;obtain ⟨q1,q2⟩:=hp.β _ _ hx (by omega);obtain ⟨q3,q4⟩:=hp.β _ _ hy (by omega);obtain ⟨q5,q6⟩:=hp.β _ _ hz ha;rw [<-q3,<-q5];exact .gref _ x k p q6 (by rw [q3,q5];exact hc) (by rw [q3,q1];exact hq)
    cases he
   cases he
 | eptr ℓ a k i j ha hi =>
   intro av' ℓ' hp he hl;simp only [AV.ren] at he;split at he
   ·rename_i x hx;cases he;obtain ⟨h1,h2⟩:=hp.β _ _ hx ha;rw [<-h1];exact .eptr _ _ k i j h2 hi
   cases he
 | vptr ℓ a k i j m z ha hi hz hm =>
   intro av' ℓ' hp he hl;simp only [AV.ren] at he;split at he
   ·rename_i x hx;cases he;obtain ⟨h1,h2⟩:=hp.β _ _ hx ha;rw [<-h1];exact .vptr _ _ k i j m z h2 hi hz hm
   cases he
 | agg ℓ cs vs hs _ hc hf ih =>
   intro av' ℓ' hp he hl;simp only [AV.ren] at he;split at he
   ·rename_i a' h1;cases he;obtain ⟨l1,g1⟩:=a2H h1;refine .agg _ a' vs (by rw [l1];exact hs) (fun i hi=>ih i (by omega) hp (g1 i (by omega) hi) rfl) (fun c hc0 => ?_) (fun c hc0 => ?_)
    ·obtain ⟨i,hi,rfl⟩:=List.mem_iff_getElem.1 hc0;rw [AV.ren_isCell (g1 i (by omega) hi)];exact hc _ (zp6 _)
    obtain ⟨i,hi,rfl⟩:=List.mem_iff_getElem.1 hc0;rw [AV.ren_frl (g1 i (by omega) hi)];exact hf _ (zp6 _)
   cases he
 | tuple ℓ cs vs hs _ hc ih =>
   intro av' ℓ' hp he hl;simp only [AV.ren] at he;split at he
   ·rename_i a' h1;cases he;obtain ⟨l1,g1⟩:=a2H h1;refine .tuple _ a' vs (by rw [l1];exact hs) (fun i hi=>ih i (by omega) hp (g1 i (by omega) hi) rfl) (fun c hc0 => ?_);obtain ⟨i,hi,rfl⟩:=List.mem_iff_getElem.1 hc0;rw [AV.ren_isLocal (g1 i (by omega) hi)];exact hc _ (zp6 _)
   cases he
def AV.fixR (f:Nat->Option Nat):AV->Bool
 | .ptr a _=>match f a with | some b=>Nat.beq b a | none=>false
 | .d _ | .undef | .nilptr | .nilmap | .nilfunc=>true
 | _=>false
theorem AV.fixR_ren {f:Nat->Option Nat} {c:AV} (h:c.fixR f=true):c.ren f=some c:=by
 cases c with
 | ptr a off =>
   simp only [AV.fixR] at h;split at h
   ·rename_i b hb;have:=Nat.eq_of_beq_eq_true h;subst this;simp [AV.ren,hb]
   cases h
 | d x=>rfl
 | undef=>rfl
 | nilptr=>rfl
 | nilmap=>rfl
 | nilfunc=>rfl
 | _=>simp [AV.fixR] at h
theorem a9c {f:Nat->Option Nat} : ∀ {e:List (Nat×AV)},e.all (fun p=>p.2.fixR f)=true -> ∀ t,(a1V e t).fixR f=true
 | [],_,_=>rfl
 | (s,v)::r,h,t=>by
   simp only [List.all_cons,zp4] at h;simp only [a1V];split
   ·exact h.1
   exact a9c h.2 t
def Obj.ren (f:Nat->Option Nat) (i j:Nat):Obj->Option Obj
 | .cells cs=>match b4N f cs with | some a=>some (.cells a) | none=>none
 | .loop L=>if L.env.all (fun p=>p.2.fixR f) then some (.loop L) else none
 | .gro k l=>match f (i+1),f (i+2) with
   | some y,some z=>if y=j+1/\z=j+2 then some (.gro k l) else none
   | _,_=>none
 | .jag k l o=>match f (i+1),f (i+2) with
   | some y,some z=>if y=j+1/\z=j+2 then
     match o with
     | none=>some (.jag k l none)
     | some (t,x)=>match x.ren f with | some x'=>some (.jag k l (some (t,x'))) | none=>none
     else none
   | _,_=>none
 | x=>some x
theorem a2c.ren {f:Nat->Option Nat} {G G':Gh} {w w':World} {i j:Nat} {ob ob':Obj} (h:a2c G w i ob) (hi:i<G.nh) (hp:Rn f G G' w w') (hf:f i=some j) (hr:ob.ren f i j=some ob'):a2c G' w' j ob':=by
 obtain ⟨hβ,hj⟩:=hp.β _ _ hf hi;have hO : ∀ b q,G.O b=some (.o i,q)->G'.O b=some (.o j,q)/\w'.heap[b]?=w.heap[b]?:=fun b q h=>hp.O b _ _ q (by simp [Loc.ren,hf]) h;cases ob with
 | cells cs =>
   simp only [Obj.ren] at hr;split at hr
   ·rename_i a' h0;cases hr;obtain ⟨l1,g1⟩:=a2H h0;obtain ⟨vs,e,h1,h2,h3,h4,h5⟩:=h;obtain ⟨h6,h7⟩:=hO _ _ h1;rw [<-hβ] at h2 h6 h7;refine ⟨vs,e,h6,h7.trans h2,by rw [l1];exact h3,fun q hq=>(h4 q (by omega)).ren hp (g1 q (by omega) hq) (by simp [Loc.ren,hf]),fun c hc0 => ?_⟩;obtain ⟨q,hq,rfl⟩:=List.mem_iff_getElem.1 hc0;rw [AV.ren_isCell (g1 q (by omega) hq)];exact h5 _ (zp6 _)
   cases hr
 | arr k l =>
   simp only [Obj.ren] at hr;cases hr;obtain ⟨vs,e,h1,h2,h3,h4,h8,h5⟩:=h;obtain ⟨h6,h7⟩:=hO _ _ h1;rw [<-hβ] at h2 h6 h7;exact ⟨vs,e,h6,h7.trans h2,h3,h4,h8,fun j hj=>(h5 j hj).mono hp.K⟩
 | map agg ks es =>
   simp only [Obj.ren] at hr;cases hr;obtain ⟨ms,clock,h1,h2,h3⟩:=h;obtain ⟨h6,h7⟩:=hO _ _ h1;rw [<-hβ] at h2 h6 h7;exact ⟨ms,clock,h6,h7.trans h2,h3.1.mono hp.K,h3.2⟩
 | loop L =>
   simp only [Obj.ren] at hr;split at hr
   ·rename_i hfix;cases hr;obtain ⟨fn,tmps,D,h1,h2,h3,h4,h5⟩:=h;obtain ⟨h6,h7⟩:=hO _ _ h1;rw [<-hβ] at h2 h6 h7;exact ⟨fn,tmps,D,h6,h7.trans h2,h3,fun t=>(h4 t).ren hp (AV.fixR_ren (a9c hfix t)) rfl,h5⟩
   cases hr
 | gro k l =>
   simp only [Obj.ren] at hr;split at hr
   ·rename_i y z hy hz;split at hr
    ·rename_i hyz;obtain ⟨rfl,rfl⟩:=hyz;cases hr;obtain ⟨g0,g1,g2,g3,g4⟩:=h;obtain ⟨b1,_⟩:=hp.β _ _ hy (by omega);obtain ⟨b2,c2⟩:=hp.β _ _ hz g0;refine ⟨c2,by rw [b2];exact g1,by rw [b1];exact g2,g3,fun hc => ?_⟩;rw [b1] at hc;obtain ⟨vs,e,h1,h2,h3,h8,h5⟩:=g4 hc;obtain ⟨h6,h7⟩:=hO _ _ h1;rw [<-hβ] at h2 h6 h7;exact ⟨vs,e,h6,h7.trans h2,by rw [b1];exact h3,h8,fun j hj=>(h5 j hj).mono hp.K⟩
    cases hr
   cases hr
 | jag k l o =>
   simp only [Obj.ren] at hr;split at hr
   ·rename_i y z hy hz;split at hr
    ·rename_i hyz;obtain ⟨rfl,rfl⟩:=hyz;obtain ⟨g0,g1,g2,g3,go,g4⟩:=h;obtain ⟨b1,_⟩:=hp.β _ _ hy (by omega);obtain ⟨b2,c2⟩:=hp.β _ _ hz g0;have key : ∀ o',(∀ p,o'=some p->p.2.isCell=true/\p.2.free=true)->(∀ (j:Nat) (x:D) (l':List D),x = .list k l'->(b1K k o j x).ren f=some (b1K k o' j x))->ob' = .jag k l o'->a2c G' w' j ob':=by
      rintro o' ho' hent rfl;refine ⟨c2,by rw [b2];exact g1,by rw [b1];exact g2,g3,ho',fun hc => ?_⟩;rw [b1] at hc;obtain ⟨vs,e,h1,h2,h3,h5⟩:=g4 hc;obtain ⟨h6,h7⟩:=hO _ _ h1;rw [<-hβ] at h2 h6 h7;refine ⟨vs,e,h6,h7.trans h2,by rw [b1];exact h3,fun q hq => ?_⟩;obtain ⟨l',hx⟩:=g3 _ (zp6 hq);exact (h5 q hq).ren hp (hent q _ _ hx) (by simp [Loc.ren,hf])
     split at hr
     ·cases hr;refine key none (fun p e=>by cases e) (fun j x l' hx => ?_) rfl;subst hx;simp [b1K,frA,AV.ren]
     rename_i t x;split at hr
     ·rename_i x' hx';cases hr;refine key (some (t,x')) (fun p e => ?_) (fun j y l' hy => ?_) rfl
      ·cases e;have:=go _ rfl;exact ⟨by rw [AV.ren_isCell hx'];exact this.1,by rw [AV.ren_free hx'];exact this.2⟩
      subst hy;simp only [b1K];split
      ·exact hx'
      simp [frA,AV.ren]
     cases hr
    cases hr
   cases hr
 | dead=>simp only [Obj.ren] at hr;cases hr;trivial
def a3m:List (Option Nat)->Nat->Nat->Option Nat
 | [],_,_=>none
 | some a::r,j,i=>if a=i then some j else a3m r (j+1) i
 | none::r,j,i=>a3m r (j+1) i
theorem a2U : ∀ {sel:List (Option Nat)} {j i x:Nat},a3m sel j i=some x->j<=x/\sel[x-j]?=some (some i)
 | some a::r,j,i,x,h=>by
   simp only [a3m] at h;split at h
   ·rename_i e;subst e;cases h;simp
   obtain ⟨h1,h2⟩:=a2U h;refine ⟨by omega,?_⟩;rw [show x-j=(x-(j+1))+1 by omega];simpa using h2
 | none::r,j,i,x,h=>by
   simp only [a3m] at h;obtain ⟨h1,h2⟩:=a2U h;refine ⟨by omega,?_⟩;rw [show x-j=(x-(j+1))+1 by omega];simpa using h2
def b2n (f:Nat->Option Nat) (H:List Obj):List (Option Nat)->Nat->Option (List Obj)
 | [],_=>some []
 | none::r,j=>match b2n f H r (j+1) with | some x=>some (.dead::x) | none=>none
 | some i::r,j=>match H[i]?,f i with
   | some ob,some j'=>if j'=j then match ob.ren f i j,b2n f H r (j+1) with | some o,some x=>some (o::x) | _,_=>none else none
   | _,_=>none
theorem a5q {f:Nat->Option Nat} {H:List Obj} : ∀ {sel:List (Option Nat)} {j0:Nat} {H':List Obj},b2n f H sel j0=some H'->H'.length=sel.length /\
  ∀ (j:Nat) (ob':Obj),H'[j]?=some ob'->ob' = .dead \/ ∃ i ob,sel[j]?=some (some i)/\H[i]?=some ob/\f i=some (j0+j)/\ob.ren f i (j0+j)=some ob'
 | [],j0,H',h=>by simp [b2n] at h;subst h;exact ⟨rfl,fun j ob' e=>by simp at e⟩
 | none::r,j0,H',h=>by
   simp only [b2n] at h;split at h
   ·rename_i x hx;cases h;obtain ⟨h1,h2⟩:=a5q hx;refine ⟨by simp [h1],fun j ob' e => ?_⟩;cases j with
    | zero=>simp at e;exact .inl e.symm
    | succ j =>
      rcases h2 j ob' (by simpa using e) with h | ⟨i,ob,a1,a2,a3,a4⟩
      ·exact .inl h
      exact .inr ⟨i,ob,by simpa using a1,a2,by rw [a3];congr 1;omega,by rw [<-a4];congr 1;omega⟩
   cases h
 | some i::r,j0,H',h=>by
   simp only [b2n] at h;split at h
   ·rename_i ob j' hob hj';split at h
    ·rename_i hjj;subst hjj;split at h
     ·rename_i o x ho hx;cases h;obtain ⟨h1,h2⟩:=a5q hx;refine ⟨by simp [h1],fun j ob' e => ?_⟩;cases j with
      | zero=>simp at e;subst e;exact .inr ⟨i,ob,rfl,hob,hj',ho⟩
      | succ j =>
        rcases h2 j ob' (by simpa using e) with h | ⟨i,ob,a1,a2,a3,a4⟩
        ·exact .inl h
        exact .inr ⟨i,ob,by simpa using a1,a2,by rw [a3];congr 1;omega,by rw [<-a4];congr 1;omega⟩
     cases h
    cases h
   cases h
def b9B (f:Nat->Option Nat) (e:List (Nat×AV)):List Nat->Option (List (Nat×AV))
 | []=>some []
 | t::r=>match (a1V e t).noPlace.ren f,b9B f e r with | some v,some x=>some ((t,v)::x) | _,_=>none
theorem a7G {f:Nat->Option Nat} {e:List (Nat×AV)} : ∀ {ts:List Nat} {e':List (Nat×AV)},b9B f e ts=some e' -> ∀ t,a1V e' t = .undef\/(a1V e t).noPlace.ren f=some (a1V e' t)
 | [],e',h,t=>by simp [b9B] at h;subst h;exact .inl rfl
 | s::r,e',h,t=>by
   simp only [b9B] at h;split at h
   ·rename_i v x h1 h2;cases h;simp only [a1V];split
    ·rename_i hst;subst hst;exact .inr h1
    exact a7G h2 t
   cases h
def St.ren (σ:St) (sel:List (Option Nat)) (ts:List Nat):Option St :=
 match b9B (a3m sel 0) σ.env ts,b2n (a3m sel 0) σ.heap sel 0 with
 | some e,some h=>some { env:=e,heap:=h,n:=σ.n }
 | _,_=>none
def a9Y:Nat->List (Option Nat)->Nat->Bool
 | 0,_,_=>true
 | m+1,some i::r,j=>Nat.beq i j&&a9Y m r (j+1)
 | m+1,none::r,j=>a9Y m r (j+1)
 | _+1,[],_=>false
theorem a6k : ∀ {m:Nat} {sel:List (Option Nat)} {j:Nat},a9Y m sel j=true->m<=sel.length /\ ∀ i,i<m->sel[i]?=some none\/sel[i]?=some (some (j+i))
 | 0,_,_,_=>⟨Nat.zero_le _,fun i hi=>by omega⟩
 | m+1,some a::r,j,h=>by
   simp only [a9Y,zp4,Nat.beq_eq] at h;obtain ⟨h1,h2⟩:=a6k h.2;refine ⟨by simp;omega,fun i hi => ?_⟩;cases i with
   | zero=>right;simp [h.1]
   | succ i=>rcases h2 i (by omega) with h | h
             ·left;simpa using h
             right;simp [h];omega
 | m+1,none::r,j,h=>by
   simp only [a9Y] at h;obtain ⟨h1,h2⟩:=a6k h;refine ⟨by simp;omega,fun i hi => ?_⟩;cases i with
   | zero=>left;rfl
   | succ i=>rcases h2 i (by omega) with h | h
             ·left;simpa using h
             right;simp [h];omega
theorem Wk.ren {m:Nat} {σ σ':St} (sel:List (Option Nat)) (ts:List Nat) (hm:a9Y m sel 0=true) (h:σ.ren sel ts=some σ'):Wk m σ σ':=by
 unfold St.ren at h;split at h
 ·rename_i e' H' hE hH;cases h;intro G a w hmn R;let f:=a3m sel 0;have hE':b9B f σ.env ts=some e':=hE;have hH':b2n f σ.heap sel 0=some H':=hH;obtain ⟨hm1,hm2⟩:=a6k hm;obtain ⟨hl,hget⟩:=a5q hH';let G':Gh :=
   { K:=G.K
     O:=fun b=>match G.O b with
      | some (ℓ,q)=>match ℓ.ren f with | some ℓ'=>some (ℓ',q) | none=>none
      | none=>none
     β:=fun
      | .o j=>match sel[j]? with | some (some i)=>G.β (.o i) | _=>G.β (.o j)
      | r=>G.β r
     nh:=sel.length }
  have hO' : ∀ {b ℓ' q},G'.O b=some (ℓ',q) -> ∃ ℓ,G.O b=some (ℓ,q)/\ℓ.ren f=some ℓ':=by
   intro b ℓ' q h;simp only [G'] at h;split at h
   ·rename_i ℓ q' hO;split at h
    ·rename_i ℓ2 h2;cases h;exact ⟨ℓ,hO,h2⟩
    cases h
   cases h
  have hrn:Rn f G G' w w:=by
   refine ⟨KLe.refl _,fun b ℓ ℓ' q h1 h2=>⟨by simp only [G',h2,h1],rfl⟩,fun a a' h1 _ => ?_,fun _=>rfl⟩;obtain ⟨_,h3⟩:=a2U h1;rw [Nat.sub_zero] at h3;exact ⟨by simp only [G',h3],(zp2.1 h3).1⟩
  refine ⟨G',⟨⟨⟨fun b ℓ' q h => ?_⟩,hl,fun j ob' hob => ?_,R.h.kept,fun b ℓ' q h => ?_⟩,R.size,fun t => ?_,fun t r off ht => ?_,?_⟩,?_,hm1⟩
  ·obtain ⟨ℓ,h1,h2⟩:=hO' h;have:=R.h.sane.no b ℓ q h1;cases ℓ <;> simp only [Loc.ren,Option.map_eq_some_iff,zp3] at h2 <;> first | (obtain ⟨x,_,rfl⟩:=h2;simp [Loc.root];done) | (subst h2;exact this)
  ·rcases hget j ob' hob with rfl | ⟨i,ob,h1,h2,h3,h4⟩
   ·trivial
   rw [Nat.zero_add] at h3 h4;exact (R.h.objs i ob h2).ren (by rw [<-R.h.nh];exact (zp2.1 h2).1) hrn h3 h4
  ·obtain ⟨ℓ,h1,_⟩:=hO' h;exact R.h.disj b ℓ q h1
  ·rcases a7G hE' t with h | h
   ·simp only [St.get];rw [h];exact .undef _ _
   have hs:=R.slots t;have:RepV G w (.s t) (a1V σ.env t).noPlace (a.tmps.getD t Go.undef):=by
    simp only [St.get] at hs;generalize a1V σ.env t=c at hs;cases c <;> first | exact hs | exact .undef _ _
   exact this.ren hrn h rfl
  ·exfalso;simp only [St.get] at ht;rcases a7G hE' t with h | h
   ·rw [ht] at h;cases h
   rw [ht] at h;generalize a1V σ.env t=c at h;have hl:=AV.ren_isLocal h;cases c <;> simp only [AV.noPlace,AV.ren] at h <;> (repeat' split at h) <;> simp_all [AV.isLocal,AV.noPlace]
  ·refine ⟨R.df.1,fun d hd => ?_⟩;obtain ⟨r0,h1,h2,h3⟩:=R.df.2 d hd;exact ⟨r0,h1,(hrn.O _ _ .df _ rfl h2).1,h3⟩
  refine ⟨KLe.refl _,fun x v h => .inl h,fun b hb h=>⟨rfl,by simp only [G',h]⟩,Nat.le_refl _,fun i hi => ?_,rfl,rfl,fun _ _=>rfl,rfl,Nat.le_refl _⟩;rcases hm2 i hi with h | h
  ·simp only [G',h]
  rw [Nat.zero_add] at h;simp only [G',h]
 cases h
end Go.Am
namespace Go.Am
open Go
def AV.freshOf:AV->Option (Nat×List D)
 | .fresh k l=>some (k,l)
 | .own k []=>some (k,[])
 | .lim k []=>some (k,[])
 | _=>none
theorem a2V {G:Gh} {w:World} {ℓ:Loc} {k:Nat} {p:Option Addr}:a6X G w ℓ k [] (.slice p 0 0) :=
 ⟨p,0,rfl,fun x hx=>by simp at hx,Nat.le_refl _,fun h=>by omega⟩
theorem b1f {G:Gh} {w:World} {ℓ:Loc} {c:AV} {v:Value} {k:Nat} {l:List D} (h:RepV G w ℓ c v) (hc:c.freshOf=some (k,l)):a6X G w ℓ k l v:=by
 unfold AV.freshOf at hc;split at hc
 ·cases hc;cases h with | fresh _ _ _ _ h=>exact h
 ·cases hc;cases h with | own _ _ _ _ hr ht =>
  rcases hr.slice with ⟨_,oa,hv⟩ | ⟨b,off,cap,hv⟩
  ·rw [hv];exact a2V
  rcases Nat.eq_zero_or_pos cap with h0 | h0
  ·subst h0;rw [hv];exact a2V
  obtain ⟨f,c,e,h1,h2,h3,h4,h5⟩:=ht _ _ _ hv h0;dsimp only at h1 h2 h3 h4 h5;subst h5;have hf:f=0:=by simpa using h2
  subst hf;exact ⟨some ⟨b,0,none⟩,cap,hv,fun x hx=>by simp at hx,Nat.zero_le _,fun _=>⟨b,c,e,rfl,h1,h3,by simpa using h4,fun j hj=>by simp [D.flat] at hj,fun j hj=>by simp [D.flat] at hj⟩⟩
 ·cases hc;cases h with | lim _ _ _ _ hr ht =>
  rcases hr.slice with ⟨_,oa,hv⟩ | ⟨b,off,cap,hv⟩
  ·rw [hv];exact a2V
  have:=ht _ _ _ hv;simp at this;subst this;rw [hv];exact a2V
 cases hc
theorem Rel.reCell {G:Gh} {σ:St} {a:Act} {w:World} (R:Rel G σ a w) {i j:Nat} {cs:List AV} {c':AV} (hi:σ.heap[i]?=some (.cells cs))
  (hc : ∀ vs e,j<cs.length->w.heap[G.β (.o i)]?=some (.cells vs e (0,0))->RepV G w (.oc i j) c' (vs.getD j Go.undef)) (hcell:c'.isCell=true):Rel G { σ with heap:=σ.heap.set i (.cells (cs.set j c')) } a w:=by
 refine ⟨⟨R.h.sane,by simpa using R.h.nh,fun x ob hob => ?_,R.h.kept,R.h.disj⟩,R.size,R.slots,R.places,R.df⟩;by_cases hx:i=x
 ·subst hx;simp only at hob;rw [List.getElem?_set_self (zp2.1 hi).1] at hob;injection hob with hob;subst hob
  obtain ⟨vs,e,p1,p2,p3,p4,p5⟩:=R.h.objs i _ hi;refine ⟨vs,e,p1,p2,by simpa using p3,fun y hy => ?_,fun c hc0 => ?_⟩
  ·by_cases hyj:y=j
   ·subst hyj;rw [List.getElem_set_self];exact hc vs e (by simpa using hy) p2
   rw [List.getElem_set_ne (Ne.symm hyj)];exact p4 y (by simpa using hy)
  rcases List.mem_or_eq_of_mem_set hc0 with hc0 | rfl
  ·exact p5 c hc0
  exact hcell
 rw [List.getElem?_set_ne hx] at hob;exact R.h.objs x ob hob
theorem Rel.reSlot {G:Gh} {σ:St} {a:Act} {w:World} (R:Rel G σ a w) {s:Nat} {c:AV} (hc:RepV G w (.s s) c (a.tmps.getD s Go.undef)) (hl:c.isLocal=false) (hb:(σ.get s).isBox=false):Rel G { σ with env:=a2A σ.env s c } a w:=by
 refine ⟨R.h,R.size,fun t => ?_,fun t r off ht => ?_,R.df⟩
 ·simp only [St.get,a0d];split
  ·rename_i e;subst e;exact hc
  exact R.slots t
 simp only [St.get,a0d] at ht ⊢;split at ht
 ·subst ht;simp [AV.isLocal] at hl
 obtain ⟨cs,hcs⟩:=R.places t r off ht;refine ⟨cs,?_⟩;split
 ·rename_i e;subst e;rw [show σ.get s = .lbox cs from hcs] at hb;simp [AV.isBox] at hb
 exact hcs
theorem Wk.settle {m:Nat} {σ:St} (i j:Nat) {k:Nat} {l:List D} {cs:List AV} {c:AV} (hi:σ.heap[i]?=some (.cells cs)) (hj:cs[j]?=some c) (hc:c.freshOf=some (k,l)) :
  Wk m σ { σ with heap:=σ.heap.set i (.cells (cs.set j (.gref σ.heap.length k)))++[.gro k l,.dead,.dead] }:=by
 intro G a w hm R;obtain ⟨vs,e,o1,o2,o3,o4,o5⟩:=R.h.objs i _ hi;have hjl:j<cs.length:=(zp2.1 hj).1;have hcj:cs[j]=c:=(zp2.1 hj).2;have hil:i<σ.heap.length:=(zp2.1 hi).1;have h0:=o4 j hjl;rw [hcj] at h0;obtain ⟨p,cap,hv,hu,hl,hb⟩:=b1f h0 hc;have R1:=R.reCell (j:=j) (c' := .junk) hi (fun vs' e' _ hw'=>by rw [o2] at hw';cases hw';rw [hv];exact .junk _ _ rfl) rfl;obtain ⟨b,hb'⟩ : ∃ b,0<cap->p=some ⟨b,0,none⟩/\G.O b=some (.oc i j,0) /\ ∃ vs e,w.heap[b]?=some (.cells vs e (0,0))/\cap*k<=vs.size /\
   (∀ j,j<(D.flat l).length->(vs.getD j Go.undef).oneCell'=true) /\ ∀ (j:Nat) (hj:j<(D.flat l).length),RepD G.K (D.flat l)[j] (vs.getD j Go.undef):=by
  rcases Nat.eq_zero_or_pos cap with h | h
  ·exact ⟨0,fun h'=>by omega⟩
  obtain ⟨b,vs,e,q1,q2,q3,q4,q5,q6⟩:=hb h;exact ⟨b,fun _=>⟨q1,q2,vs,e,q3,q4,q5,q6⟩⟩
 have hN:({ σ with heap:=σ.heap.set i (.cells (cs.set j .junk)) }:St).heap.length=σ.heap.length:=by simp
 obtain ⟨R2,hE,hrep⟩:=R1.toGro (w':=w) (k:=k) (l:=l) (cap:=cap) (b:=b) (p:=p) (fun hc=>(hb' hc).1) hu hl (Nat.le_refl _) ⟨rfl,rfl,fun _ _=>rfl,rfl,Nat.le_refl _⟩ (fun _ _ _=>rfl)
  (fun hc=>by
   obtain ⟨q1,q2,vs,e,q3,q4⟩:=hb' hc;refine ⟨(Array.getElem?_eq_some_iff.1 q3).1,.inr ⟨_,q2,?_⟩,vs,e,q3,q4⟩;refine .inl ⟨cs.set j .junk,by simp [hil],fun c hc => ?_⟩;rw [List.getElem?_set_self hjl] at hc;cases hc;rfl)
 rw [hN] at R2 hE hrep;have hβ:(G.gro σ.heap.length b cap l.length).β (.o i)=G.β (.o i):=by
  simp only [Gh.gro,Root.o.injEq];rw [if_neg (by omega),if_neg (by omega),if_neg (by omega)]
 have R3:=R2.reCell (i:=i) (j:=j) (cs:=cs.set j .junk) (c' := .gref σ.heap.length k) (by simp [zp7,hil]) (fun vs' e' _ hw'=>by
  rw [hβ,o2] at hw';cases hw';rw [hv];exact hrep _) rfl
 refine ⟨_,?_,hE m hm,?_⟩
 ·have:(σ.heap.set i (Obj.cells (cs.set j AV.junk))++[Obj.gro k l,.dead,.dead]).set i (.cells ((cs.set j AV.junk).set j (.gref σ.heap.length k)))=σ.heap.set i (.cells (cs.set j (.gref σ.heap.length k)))++[.gro k l,.dead,.dead]:=by
   rw [List.set_append_left _ _ (by simpa using hil),List.set_set,List.set_set]
  rw [this] at R3;exact R3
 have:=R.h.nh;simp only [Gh.gro];omega
theorem RelH.freezeG {G:Gh} {H:List Obj} {w:World} {c:Loc} (R:RelH G H w) {i k:Nat} {l:List D} {v:Value} (hrep:RepV G w c (.gref i k) v) (hi:H[i]?=some (.gro k l)) :
  ∃ G',RelH G' (H.set i .dead) w/\RepD G'.K (.list k l) v/\(∀ m,Ext m G w G' w)/\Pres G G' w w (fun x=>x ≠ .o i)/\G'.β=G.β:=by
 have hil:i<H.length:=(zp2.1 hi).1;have hrep0:=hrep;cases hrep with | gref _ _ _ p ha hc hp =>
 obtain ⟨g0,g1,g2,g3,g4⟩:=R.objs i _ hi;by_cases hcap:G.β (.o (i+1))=0
 ·have hl:l=[]:=List.eq_nil_of_length_eq_zero (by omega);have h2:G.β (.o (i+2))=0:=by omega
  subst hl;refine ⟨G,⟨R.sane,by simpa using R.nh,fun j ob hob => ?_,R.kept,R.disj⟩,by rw [hcap,h2];exact RepD.zero _ _ _,fun m=>Ext.refl _ _ _,⟨KLe.refl _,fun b ℓ f _ h=>⟨h,rfl⟩,fun _ _=>rfl,Nat.le_refl _⟩,rfl⟩;by_cases hij:i=j
  ·subst hij;rw [List.getElem?_set_self hil] at hob;cases hob;trivial
  rw [List.getElem?_set_ne hij] at hob;exact R.objs j ob hob
 obtain ⟨vs,e,h1,h2,h3,h4,h5⟩:=g4 (by omega);have hfl:=a0b g3;have hmul:l.length*k<=G.β (.o (i+1))*k:=Nat.mul_le_mul_right _ g2;have R':RelH G (H.set i (.arr k l)) w:=by
  refine ⟨R.sane,by simpa using R.nh,fun j ob hob => ?_,R.kept,R.disj⟩;by_cases hij:i=j
  ·subst hij;rw [List.getElem?_set_self hil] at hob;cases hob;exact ⟨vs,e,h1,h2,g3,by omega,h4,h5⟩
  rw [List.getElem?_set_ne hij] at hob;exact R.objs j ob hob
 obtain rfl:=hp (by omega);have hm:RepV G w c (.mref i k 0 l.length) (.slice (some ⟨G.β (.o i),0,none⟩) (G.β (.o (i+2))) (G.β (.o (i+1)))):=by
  have:=RepV.mref (G:=G) (w:=w) c i k 0 (l.length:Int) (G.β (.o i)) 0 (G.β (.o (i+1))) (by omega) (Int.le_refl _) (by omega) (by simpa using g2) (fun _=>⟨rfl,by simp⟩);rw [<-g1];simpa using this
 obtain ⟨G',q1,q2,q3,q4,q5⟩:=R'.freezeP hm (by rw [List.getElem?_set_self hil]) (by omega);rw [List.set_set] at q1;have hs:Ar.std.sub l 0 (0+(l.length:Int))=l:=by simp [Ar.std]
 rw [hs] at q2;exact ⟨G',q1,q2,q3,q4,q5⟩
theorem Rel.ofPres {G G':Gh} {σ:St} {a:Act} {w:World} (R:Rel G σ a w) {H':List Obj} {i:Nat} (R1:RelH G' H' w) (hpr:Pres G G' w w (fun x=>x ≠ .o i)) (hβ:G'.β=G.β):Rel G' { σ with heap:=H' } a w:=by
 refine ⟨R1,R.size,fun t=>(R.slots t).pres R.h.sane hpr (by simp) (fun _ _ _=>by rw [hβ]) (fun _ _ _=>⟨by rw [hβ],by simp⟩),R.places,⟨R.df.1,fun d hd => ?_⟩⟩;obtain ⟨r0,h1,h2,h3⟩:=R.df.2 d hd;exact ⟨r0,h1,(hpr.O _ _ _ (by simp) h2).1,h3⟩
theorem Wk.freezeG {m:Nat} {σ:St} (i j:Nat) {q k:Nat} {l:List D} {cs:List AV} (hi:σ.heap[i]?=some (.cells cs)) (hj:cs[j]?=some (.gref q k)) (hq:σ.heap[q]?=some (.gro k l)) :
  Wk m σ { σ with heap:=(σ.heap.set q .dead).set i (.cells (cs.set j (.d (.list k l)))) }:=by
 intro G a w hm R;have hjl:j<cs.length:=(zp2.1 hj).1;have hcj:cs[j] = .gref q k:=(zp2.1 hj).2;obtain ⟨vs,e,o1,o2,o3,o4,o5⟩:=R.h.objs i _ hi;have hv:=o4 j hjl;rw [hcj] at hv;have hiq:q≠i:=by rintro rfl;rw [hq] at hi;cases hi
 obtain ⟨G',R1,hd,hE,hpr,hβ⟩:=R.h.freezeG hv hq;have R2:=R.ofPres R1 hpr hβ;have hi1:({ σ with heap:=σ.heap.set q .dead }:St).heap[i]?=some (.cells cs):=by simp only;rw [List.getElem?_set_ne hiq];exact hi
 have R3:=R2.reCell (j:=j) (c' := .d (.list k l)) hi1 (fun vs' e' _ hw'=>by
  rw [hβ,o2] at hw';cases hw';exact .d _ _ _ hd) rfl
 refine ⟨G',R3,hE m,?_⟩;have h1:=R1.nh;have h2:=R.h.nh;simp at h1;omega
theorem Wk.freezeS {m:Nat} {σ:St} (s:Nat) {q k:Nat} {l:List D} (hs:σ.get s = .gref q k) (hq:σ.heap[q]?=some (.gro k l)) :
  Wk m σ { σ with env:=a2A σ.env s (.d (.list k l)),heap:=σ.heap.set q .dead }:=by
 intro G a w hm R;have hv:=R.slots s;rw [hs] at hv;obtain ⟨G',R1,hd,hE,hpr,hβ⟩:=R.h.freezeG hv hq;have R2:=R.ofPres R1 hpr hβ;have R3:=R2.reSlot (s:=s) (c := .d (.list k l)) (.d _ _ _ hd) rfl (by show (σ.get s).isBox=false;rw [hs];rfl);refine ⟨G',R3,hE m,?_⟩;have h1:=R1.nh;have h2:=R.h.nh;simp at h1;omega
theorem a0e.fresh {P:Program} {f:FuncId} {args:List AV} {k:Nat} {l:List D} (hc:a0e P f args [] (.own k l) []) (hs:scalars l=true):a0e P f args [] (.fresh k l) []:=by
 obtain ⟨h1,_,_,_,_,h⟩:=hc;refine ⟨h1,rfl,rfl,rfl,Nat.le_refl _,?_⟩;intro N G w vs hvs hrep R hO;have hnone : ∀ b,(G.handed 0).O b=none:=fun b=>a3c (by intro ℓ f _;cases ℓ <;> simp [a1h]);have R0:=R.handed (H:=[]) (rest:=[]) rfl;have hsub:Sub G (G.handed 0) w w (fun ℓ=>ℓ = .no) 0 :=
  ⟨KLe.refl _,fun b ℓ f hl hO=>absurd (hl▸rfl) (R.sane.no b ℓ f hO),fun _ _=>rfl,Nat.le_refl _⟩
 have hnh:G.nh=0:=by have:=R.nh;simpa using this.symm
 have hpr0 : ∀ (i:Nat) (hi:i<args.length),RepV (G.handed 0) w .no args[i] (vs.getD i Go.undef):=by
  intro i hi;refine (hrep i hi).pres R.sane (S:=fun ℓ=>ℓ = .no) ⟨KLe.refl _,fun b ℓ f hl hO=>absurd (hl▸rfl) (R.sane.no b ℓ f hO),fun _ _=>rfl,by rw [hnh];exact Nat.le_refl _⟩ rfl (fun _ _ _=>rfl) (fun t e=>by cases e)
 refine CallsIn.mono (h N (G.handed 0) w vs hvs hpr0 R0 (fun b ℓ f hb=>by rw [hnone] at hb;cases hb)) ?_;rintro e w' ⟨v,G3,rfl,hv,R3,hE⟩;have hold : ∀ b',b'<w.heap.size->w'.heap[b']?=w.heap[b']?:=fun b' hb=>(hE.others b' hb (hnone b')).1;have hkept : ∀ x v,G.K x=some v->w'.cell? x=some v:=by
  intro x v h;have hx:=R.kept x v h;have hb:=World.block_lt_of_cell? w _ hx;unfold World.cell? at *
  rwa [hold _ hb]
 have triv:RepV G w' .ret (.fresh k l) v -> ∃ v' G',Ending.returned v = .returned v'/\RepV G' w' .ret (.fresh k l) v'/\RelH G' [] w'/\Ext ([]:List Obj).length G w G' w':=by
  intro hr;refine ⟨v,G,rfl,hr,⟨R.sane,R.nh,fun i ob hob=>by simp at hob,hkept,fun b ℓ f h => ?_⟩,⟨KLe.refl _,fun x v h => .inl h,fun b hb h=>⟨hold b hb,h⟩,hE.size,fun _ _=>rfl,hE.io⟩⟩;have:=R.disj b ℓ f h;exact ⟨Nat.lt_of_lt_of_le this.1 hE.size,this.2⟩
 cases hv with | own _ _ _ _ hr ht =>
 rcases hr.slice with ⟨rfl,oa,hvv⟩ | ⟨b,off,cap,hvv⟩
 ·exact triv (by rw [hvv];exact .fresh _ _ _ _ a2V)
 rw [hvv] at hr;generalize hv':Value.slice (some ⟨b,off,none⟩) l.length cap=v2 at hr;have hcl:l.length<=cap:=by
  cases hr with
  | nil=>simp at hv'
  | none0=>simp
  | list k l b' off' cap' vs hu hc=>simp at hv';omega
 rcases Nat.eq_zero_or_pos cap with h0 | h0
 ·subst h0;have hl:l=[]:=List.eq_nil_of_length_eq_zero (by omega);subst hl;exact triv (by rw [hvv];exact .fresh _ _ _ _ a2V)
 obtain ⟨fr,c,e0,t1,t2,t3,t4,t5⟩:=ht _ _ _ hvv h0;dsimp only at t1 t2 t3 t4 t5;subst t5;have hnew:w.heap.size<=b:=by
  rcases Nat.lt_or_ge b w.heap.size with hb | hb
  ·have:=(hE.others b hb (hnone b)).2;rw [this] at t1;cases t1
  exact hb
 have hblt:b<w'.heap.size:=(Array.getElem?_eq_some_iff.1 t3).1;obtain ⟨hu,vs2,hKK,h1c,hh⟩:a0k k l /\ ∃ vs:Nat->Value,(∀ j,j<(D.flat l).length->G3.K ⟨b,0+j,none⟩=some (vs j))/\(∀ j,j<(D.flat l).length->(vs j).oneCell'=true) /\ ∀ (j:Nat) (hj:j<(D.flat l).length),RepD G3.K (D.flat l)[j] (vs j):=by
  cases hr with
  | nil=>simp at hv'
  | none0=>simp at hv';omega
  | list k l b' off' cap' vs hu hc hK h1 hh =>
    simp at hv';obtain ⟨⟨rfl,rfl⟩,_⟩:=hv';exact ⟨hu,vs,hK,h1,hh⟩
 have hfl:=a0b hu;have hsz:(D.flat l).length<=c.size:=by
  have:l.length*k<=cap*k:=Nat.mul_le_mul_right k hcl;omega
 have hcell : ∀ j,j<(D.flat l).length->c.getD j Go.undef=vs2 j:=by
  intro j hj;have:=R3.kept _ _ (hKK j hj);rw [Nat.zero_add] at this;have h2:=a0V t3 (show j<c.size by omega);rw [this] at h2;exact (Option.some.inj h2).symm
 let G':Gh:={ G with O:=fun x=>if x=b then some (.ret,0) else G.O x }
 have hKb : ∀ j,G.K ⟨b,j,none⟩=none:=by
  intro j;cases hK:G.K ⟨b,j,none⟩ with
  | none=>rfl
  | some v=>have:=World.block_lt_of_cell? w _ (R.kept _ _ hK);simp at this;omega
 refine ⟨v,G',rfl,.fresh _ _ _ _ ⟨some ⟨b,0,none⟩,cap,hvv,hu,hcl,fun _=>⟨b,c,e0,rfl,by simp [G'],t3,by simpa using t4,fun j hj=>by rw [hcell j hj];exact h1c j hj,fun j hj => ?_⟩⟩,
  ⟨⟨fun b' ℓ f' h => ?_⟩,R.nh,fun i ob hob=>by simp at hob,hkept,fun b' ℓ f' h => ?_⟩,⟨KLe.refl _,fun x v h => .inl h,fun b' hb h=>⟨hold b' hb,?_⟩,hE.size,fun _ _=>rfl,hE.io⟩⟩
 ·rw [hcell j hj];exact (hh j hj).scalar (a4X hs _ (zp6 hj))
 ·simp only [G'] at h;split at h
  ·simp at h;rw [<-h.1];simp [Loc.root]
  exact R.sane.no b' ℓ f' h
 ·simp only [G'] at h;split at h
  ·rename_i e;subst e;exact ⟨hblt,fun j _=>hKb j⟩
  have:=R.disj b' ℓ f' h;exact ⟨Nat.lt_of_lt_of_le this.1 hE.size,this.2⟩
 simp only [G'];rw [if_neg (by omega)];exact h
def a9Z (sel:List (Option Nat)) (M i:Nat):Option Nat:=if i<sel.length then (match sel[i]? with | some (some j)=>some j | _=>none) else some (i-sel.length+M)
def c1L (g f:Nat->Option Nat) (H':List Obj):List Obj->Nat->Option (List Obj)
 | [],_=>some []
 | ob::r,j=>match (match f j with | some i=>(match H'[i]? with | some o=>o.ren g i j | none=>none) | none=>some ob),c1L g f H' r (j+1) with
   | some o,some x=>some (o::x)
   | _,_=>none
def c1M (g:Nat->Option Nat):List Obj->Nat->Nat->Option (List Obj)
 | [],_,_=>some []
 | ob::r,i,j=>match ob.ren g i j,c1M g r (i+1) (j+1) with | some o,some x=>some (o::x) | _,_=>none
theorem b1g {g f:Nat->Option Nat} {H':List Obj} : ∀ {B B':List Obj} {j0:Nat},c1L g f H' B j0=some B'->B'.length=B.length /\ ∀ (j:Nat) (ob':Obj),B'[j]?=some ob'->(f (j0+j)=none/\B[j]?=some ob') \/ ∃ i o,f (j0+j)=some i/\H'[i]?=some o/\o.ren g i (j0+j)=some ob'
 | [],B',j0,h=>by simp [c1L] at h;subst h;exact ⟨rfl,fun i ob' e=>by simp at e⟩
 | ob::r,B',j0,h=>by
   simp only [c1L] at h;split at h
   ·rename_i o x h1 h2;cases h;obtain ⟨h3,h4⟩:=b1g h2;refine ⟨by simp [h3],fun j ob' e => ?_⟩;cases j with
    | zero =>
      simp at e;subst e;split at h1
      ·rename_i i hi;split at h1
       ·rename_i o2 ho;exact .inr ⟨i,o2,hi,ho,h1⟩
       cases h1
      rename_i hi;cases h1;exact .inl ⟨hi,rfl⟩
    | succ j =>
      have:=h4 j ob' (by simpa using e);rw [show j0+1+j=j0+(j+1) by omega] at this;simpa using this
   cases h
theorem b1h {g:Nat->Option Nat} : ∀ {N N':List Obj} {i0 j0:Nat},c1M g N i0 j0=some N'->N'.length=N.length /\ ∀ (k:Nat) (ob':Obj),N'[k]?=some ob' -> ∃ o,N[k]?=some o/\o.ren g (i0+k) (j0+k)=some ob'
 | [],N',i0,j0,h=>by simp [c1M] at h;subst h;exact ⟨rfl,fun i ob' e=>by simp at e⟩
 | ob::r,N',i0,j0,h=>by
   simp only [c1M] at h;split at h
   ·rename_i o x h1 h2;cases h;obtain ⟨h3,h4⟩:=b1h h2;refine ⟨by simp [h3],fun k ob' e => ?_⟩;cases k with
    | zero=>simp at e;subst e;exact ⟨ob,rfl,h1⟩
    | succ k =>
      obtain ⟨o,q1,q2⟩:=h4 k ob' (by simpa using e);exact ⟨o,by simpa using q1,by rw [<-q2];congr 1 <;> omega⟩
   cases h
theorem a7H {f:Nat->Option Nat} {H:List Obj} : ∀ {sel:List (Option Nat)} {j0:Nat} {H':List Obj},b2n f H sel j0=some H' -> ∀ (j i:Nat),sel[j]?=some (some i)->i<H.length/\f i=some (j0+j)
 | [],j0,H',h,j,i,e=>by simp at e
 | none::r,j0,H',h,j,i,e=>by
   simp only [b2n] at h;split at h
   ·rename_i x hx;cases j with
    | zero=>simp at e
    | succ j =>
      have:=a7H hx j i (by simpa using e);rw [show j0+1+j=j0+(j+1) by omega] at this;exact this
   cases h
 | some i0::r,j0,H',h,j,i,e=>by
   simp only [b2n] at h;split at h
   ·rename_i ob j' hob hj';split at h
    ·rename_i hjj;subst hjj;split at h
     ·rename_i o x ho hx;cases j with
      | zero=>simp at e;subst e;exact ⟨(zp2.1 hob).1,hj'⟩
      | succ j =>
        have:=a7H hx j i (by simpa using e);rw [show j'+1+j=j'+(j+1) by omega] at this;exact this
     cases h
    cases h
   cases h
theorem a0e.emb {P:Program} {f:FuncId} {args args':List AV} {r r':AV} {H H' B N:List Obj} (hc:a0e P f args H r H') (sel:List (Option Nat)) (Hb:List Obj)
  (hH:b2n (a3m sel 0) Hb sel 0=some H) (ha:b4N (a3m sel 0) args'=some args) (hr:r.ren (a9Z sel Hb.length)=some r')
  (hB:c1L (a9Z sel Hb.length) (a3m sel 0) H' Hb 0=some B) (hN:c1M (a9Z sel Hb.length) (H'.drop sel.length) sel.length Hb.length=some N)
  (hri:r'.inb (B++N).length=true) (hin:a0s (B++N).length (B++N)=true):a0e P f args' Hb r' (B++N):=by
 obtain ⟨h1,hrl,_,_,hle,h⟩:=hc;obtain ⟨hl,hget⟩:=a5q hH;have hsel:=a7H hH;obtain ⟨la,ga⟩:=a2H ha;obtain ⟨lB,gB⟩:=b1g hB;obtain ⟨lN,gN⟩:=b1h hN;refine ⟨h1,by rw [AV.ren_isLocal hr];exact hrl,hri,hin,by simp [lB],?_⟩;intro n G w vs hvs hrep R hO;have hnh:Hb.length=G.nh:=R.nh;let fb:=a3m sel 0;let fw:=a9Z sel Hb.length;let G1:Gh :=
  { K:=G.K
    O:=fun b=>match G.O b with
     | some (ℓ,q)=>match ℓ.ren fb with | some ℓ'=>some (ℓ',q) | none=>none
     | none=>none
    β:=fun
     | .o j=>match sel[j]? with | some (some i)=>G.β (.o i) | _=>G.β (.o j)
     | r=>G.β r
    nh:=sel.length }
 have hO1 : ∀ {b ℓ' q},G1.O b=some (ℓ',q) -> ∃ ℓ,G.O b=some (ℓ,q)/\ℓ.ren fb=some ℓ':=by
  intro b ℓ' q h;simp only [G1] at h;split at h
  ·rename_i ℓ q' hO;split at h
   ·rename_i ℓ2 h2;cases h;exact ⟨ℓ,hO,h2⟩
   cases h
  cases h
 have hrn:Rn fb G G1 w w:=by
  refine ⟨KLe.refl _,fun b ℓ ℓ' q h1 h2=>⟨by simp only [G1,h2,h1],rfl⟩,fun a a' h1 _ => ?_,fun _=>rfl⟩;obtain ⟨_,h3⟩:=a2U h1;rw [Nat.sub_zero] at h3;exact ⟨by simp only [G1,h3],(zp2.1 h3).1⟩
 have R1:RelH G1 H w:=by
  refine ⟨⟨fun b ℓ' q h => ?_⟩,hl,fun j ob' hob => ?_,R.kept,fun b ℓ' q h => ?_⟩
  ·obtain ⟨ℓ,h1,h2⟩:=hO1 h;have:=R.sane.no b ℓ q h1;cases ℓ <;> simp only [Loc.ren,Option.map_eq_some_iff,zp3] at h2 <;> first | (obtain ⟨x,_,rfl⟩:=h2;simp [Loc.root];done) | (subst h2;exact this)
  ·rcases hget j ob' hob with rfl | ⟨i,ob,h1,h2,h3,h4⟩
   ·trivial
   rw [Nat.zero_add] at h3 h4;exact (R.objs i ob h2).ren (by rw [<-R.nh];exact (zp2.1 h2).1) hrn h3 h4
  obtain ⟨ℓ,h1,_⟩:=hO1 h;exact R.disj b ℓ q h1
 refine CallsIn.mono (h n G1 w vs (by omega) (fun i hi=>(hrep i (by omega)).ren hrn (ga i (by omega) hi) rfl) R1 (fun b ℓ q hb => ?_)) ?_
 ·obtain ⟨ℓ0,h2,h3⟩:=hO1 hb;obtain ⟨i,h4⟩:=hO b ℓ0 q h2;cases ℓ0 <;> simp [Loc.root] at h4 <;> (simp only [Loc.ren,Option.map_eq_some_iff] at h3;obtain ⟨x,_,rfl⟩:=h3;exact ⟨x,rfl⟩)
 rintro e w' ⟨v,G3,rfl,hv,R3,hE⟩;let Gf:Gh :=
  { K:=G3.K
    O:=fun b=>match G1.O b,G.O b with
     | none,some p=>some p
     | _,_=>match G3.O b with
       | some (ℓ,q)=>match ℓ.ren fw with | some ℓ'=>some (ℓ',q) | none=>none
       | none=>none
    β:=fun
     | .o j=>if j<Hb.length then G.β (.o j) else G3.β (.o (j-Hb.length+sel.length))
     | x=>G3.β x
    nh:=Hb.length+(H'.length-sel.length) }
 have hfor : ∀ b ℓ q,G.O b=some (ℓ,q)->ℓ.ren fb=none->G1.O b=none:=by
  intro b ℓ q h2 h3;simp only [G1,h2,h3]
 have hold : ∀ b ℓ q,G.O b=some (ℓ,q)->G1.O b=none->w'.heap[b]?=w.heap[b]?/\G3.O b=none:=fun b ℓ q h2 h3=>hE.others b (R.disj b ℓ q h2).1 h3;have hO' : ∀ {b ℓ' q},Gf.O b=some (ℓ',q)->(G1.O b=none/\G.O b=some (ℓ',q))\/(∃ ℓ,G3.O b=some (ℓ,q)/\ℓ.ren fw=some ℓ'):=by
  intro b ℓ' q h;simp only [Gf] at h;split at h
  ·rename_i p h2 h3;cases h;exact .inl ⟨h2,h3⟩
  split at h
  ·rename_i ℓ q' hO;split at h
   ·rename_i ℓ2 h2;cases h;exact .inr ⟨ℓ,hO,h2⟩
   cases h
  cases h
 have hrn3:Rn fw G3 Gf w' w':=by
  refine ⟨KLe.refl _,fun b ℓ ℓ' q h1 h2=>⟨?_,rfl⟩,fun a a' h1 h2 => ?_,fun _=>rfl⟩
  ·simp only [Gf];split
   ·rename_i p h3 h4;obtain ⟨ℓ0,q0⟩:=p;rw [(hold b ℓ0 q0 h4 h3).2] at h2;cases h2
   simp only [h2,h1]
  have hn3:=R3.nh;simp only [fw,a9Z] at h1;split at h1
  ·rename_i hlt;split at h1
   ·rename_i j hj;cases h1;obtain ⟨h5,_⟩:=hsel a a' hj;refine ⟨?_,by simp only [Gf];omega⟩;simp only [Gf];rw [if_pos h5,hE.β a (by omega)];simp only [G1,hj]
   cases h1
  cases h1;refine ⟨?_,by simp only [Gf];omega⟩;simp only [Gf];rw [if_neg (by omega)];congr 2;omega
 have hpr:Pres G Gf w w' (fun ℓ=>ℓ.ren fb=none):=by
  refine ⟨hE.K,fun b ℓ q hl h=>⟨by simp only [Gf,hfor b ℓ q h hl,h],(hold b ℓ q h (hfor b ℓ q h hl)).1⟩,fun a ha => ?_,by simp only [Gf];omega⟩;simp only [Gf];rw [if_pos (by omega)]
 refine ⟨v,Gf,rfl,hv.ren hrn3 hr rfl,⟨⟨fun b ℓ' q h => ?_⟩,?_,fun j ob' hob => ?_,R3.kept,fun b ℓ' q h => ?_⟩,⟨hE.K,fun x v h => ?_,fun b hb h => ?_,hE.size,fun i hi => ?_,hE.io⟩⟩
 ·rcases hO' h with ⟨_,h⟩ | ⟨ℓ,h2,h3⟩
  ·exact R.sane.no b ℓ' q h
  have:=R3.sane.no b ℓ q h2;cases ℓ <;> simp only [Loc.ren,Option.map_eq_some_iff,zp3] at h3 <;> first | (obtain ⟨x,_,rfl⟩:=h3;simp [Loc.root];done) | (subst h3;exact this)
 ·simp only [Gf,List.length_append,lB,lN,List.length_drop]
 ·rcases Nat.lt_or_ge j B.length with hj | hj
  ·rw [zp7 hj] at hob;rcases gB j ob' hob with ⟨h2,h3⟩ | ⟨i,o,h2,h3,h4⟩
   ·rw [Nat.zero_add] at h2;have h2':fb j=none:=h2;exact (R.objs j ob' h3).pres R.sane (by omega) hpr (by simp [Loc.ren,h2']) (fun _=>by simp [Loc.ren,h2'])
   rw [Nat.zero_add] at h2 h4;obtain ⟨_,h5⟩:=a2U h2;rw [Nat.sub_zero] at h5;have hi:i<sel.length:=(zp2.1 h5).1;refine (R3.objs i o h3).ren (by rw [<-R3.nh];exact (zp2.1 h3).1) hrn3 ?_ h4;simp only [fw,a9Z,if_pos hi,h5]
  rw [zp8 hj] at hob;obtain ⟨o,h2,h3⟩:=gN _ _ hob;rw [List.getElem?_drop] at h2;rw [lB] at h2 h3;have hjj:Hb.length+(j-Hb.length)=j:=by omega
  rw [hjj] at h3;refine (R3.objs _ o h2).ren (by rw [<-R3.nh];exact (zp2.1 h2).1) hrn3 ?_ h3;simp only [fw,a9Z];rw [if_neg (by omega)];congr 1;omega
 ·rcases hO' h with ⟨h2,h⟩ | ⟨ℓ,h2,h3⟩
  ·obtain ⟨h4,h5⟩:=R.disj b ℓ' q h;refine ⟨Nat.lt_of_lt_of_le h4 hE.size,fun j hj => ?_⟩;cases hK:Gf.K ⟨b,j,none⟩ with
   | none=>rfl
   | some x =>
     rcases hE.new ⟨b,j,none⟩ x hK with h6 | ⟨p,h6⟩ | h6
     ·rw [show G1.K=G.K from rfl,h5 j hj] at h6;cases h6
     ·rw [h2] at h6;cases h6
     simp at h6;omega
  exact R3.disj b ℓ q h2
 ·rcases hE.new x v h with h | ⟨p,h⟩ | h
  ·exact .inl h
  ·obtain ⟨ℓ,q⟩:=p;obtain ⟨ℓ0,h2,_⟩:=hO1 h;exact .inr (.inl ⟨_,h2⟩)
  exact .inr (.inr h)
 ·have h2:G1.O b=none:=by simp only [G1,h]
  obtain ⟨h3,h4⟩:=hE.others b hb h2;exact ⟨h3,by simp only [Gf,h2,h,h4]⟩
 simp only [Gf];rw [if_pos (by omega)]
set_option maxHeartbeats 2000000
section
variable {P:Program} {T:a0i} {m:Nat} {Q:Exit->St->Prop} {σ:St} {ops:Array Oper} {o:Oper} {l:List Oper}
end
section
variable {P:Program} {m:Nat} {Q:Exit->St->Prop} {σ:St} {c:Code} {R:St->Prop}
def AExit.onW (m:Nat) (R:St->Prop) (Q:Exit->St->Prop):Exit->St->Prop
 | .normal,σ => ∃ σ1,Wk m σ σ1/\R σ1
 | e,σ=>Q e σ
def AExit.onXW (m j:Nat) (R:St->Prop) (Q:Exit->St->Prop):Exit->St->Prop
 | .exit i,σ=>if i=j then ∃ σ1,Wk m σ σ1/\R σ1 else Q (.exit i) σ
 | e,σ=>Q e σ
theorem AWp.cutW (R:St->Prop) (h:AWp P m c (AExit.onW m R Q) σ) (h2 : ∀ τ,R τ->Q .normal τ):AWp P m c Q σ:=by
 intro r n G a w hm' R0;refine wpIn_mono (h r n G a w hm' R0) ?_;rintro e a' w' ⟨σ',G',R',hE,hm'',hQ⟩;cases e with
 | normal =>
   obtain ⟨σ1,hw,hR⟩:=hQ;obtain ⟨G2,R2,hE2,hm2⟩:=hw _ _ _ hm'' R';exact ⟨σ1,G2,R2,hE.trans hE2,hm2,h2 _ hR⟩
 | _=>exact ⟨σ',G',R',hE,hm'',hQ⟩
theorem AWp.cutXW (j:Nat) (R:St->Prop) (h:AWp P m c (AExit.onXW m j R Q) σ) (h2 : ∀ τ,R τ->Q (.exit j) τ):AWp P m c Q σ:=by
 intro r n G a w hm' R0;refine wpIn_mono (h r n G a w hm' R0) ?_;rintro e a' w' ⟨σ',G',R',hE,hm'',hQ⟩;cases e with
 | exit i =>
   simp only [AExit.onXW] at hQ;split at hQ
   ·rename_i hi;subst hi;obtain ⟨σ1,hw,hR⟩:=hQ;obtain ⟨G2,R2,hE2,hm2⟩:=hw _ _ _ hm'' R';exact ⟨σ1,G2,R2,hE.trans hE2,hm2,h2 _ hR⟩
   exact ⟨σ',G',R',hE,hm'',hQ⟩
 | _=>exact ⟨σ',G',R',hE,hm'',hQ⟩
theorem oWi (h : ∃ σ1,Wk m σ σ1/\R σ1):AExit.onW m R Q .normal σ:=h
theorem b1i {j:Nat} (h : ∃ σ1,Wk m σ σ1/\R σ1):AExit.onXW m j R Q (.exit j) σ:=by simp only [AExit.onXW,if_true];exact h
theorem Wk.fitS {ts:List Nat} (sf:List Nat) {k:Nat} (hm:m<=k) (hf:σ.fits ts k=true):Wk m σ (σ.fitS ts sf k) :=
 fun G a w _ R=>⟨{ G with nh:=k },R.fitS sf hf,(Ext.refl m G w).nh k,hm⟩
theorem AWp.iterW {S X:Type} {step:S->Option (S⊕X)} {s0:S} {x:X} (hx:Am.iter step s0=some x) (F:S->St) (hf : ∃ σ1,Wk m σ σ1/\σ1=F s0)
  (h : ∀ s e,step s=some e->AWp P m c (AExit.then (fun σ' => ∃ s',e = .inl s' /\ ∃ σ1,Wk m σ' σ1/\σ1=F s') (fun ex σ' => ∃ x',e = .inr x'/\(x'=x->Q ex σ'))) (F s)):AWp P m (.loop c) Q σ:=by
 obtain ⟨n,hn⟩:=a7q hx;obtain ⟨σ1,hw,rfl⟩:=hf;refine AWp.weak hw ?_;refine AWp.loop (ι:={ i:S×Nat // itN step i.2 i.1=some x }) (fun i=>i.1.2) (fun i=>F i.1.1) ⟨(s0,n),hn⟩ ?_;rintro ⟨⟨s,n⟩,hi⟩;cases n with
 | zero=>cases hi
 | succ n =>
   simp only [itN] at hi;obtain ⟨e,he,hi⟩:=a0a hi;intro r n' G a w hm' R;refine wpIn_mono (h s e he r n' G a w hm' R) ?_;rintro ex a' w' ⟨σ',G',R',hE,hm'',hq⟩;cases ex with
   | normal =>
     obtain ⟨s',rfl,σ2,hw2,h2⟩:=hq;obtain ⟨G2,R2,hE2,hm2⟩:=hw2 _ _ _ hm'' R';exact ⟨σ2,G2,R2,hE.trans hE2,hm2,⟨(s',n),hi⟩,Nat.lt_succ_self _,h2⟩
   | _=>obtain ⟨x',rfl,h1⟩:=hq;exact ⟨σ',G',R',hE,hm'',h1 (soI hi)⟩
end
theorem Wk.settleS {m:Nat} {σ:St} (s:Nat) {k:Nat} {l:List D} (hc:(σ.get s).freshOf=some (k,l)) (hlt:s<σ.n) :
  Wk m σ { σ with env:=a2A σ.env s (.gref σ.heap.length k),heap:=σ.heap++[.gro k l,.dead,.dead] }:=by
 intro G a w hm R;have h0:=R.slots s;have hbx:(σ.get s).isBox=false:=by
  generalize σ.get s=c at hc;cases c <;> first | rfl | (simp [AV.freshOf] at hc)
 obtain ⟨p,cap,hv,hu,hl,hb⟩:=b1f h0 hc;have R1:=R.reSlot (s:=s) (c := .junk) (by rw [hv];exact .junk _ _ rfl) rfl hbx;obtain ⟨b,hb'⟩ : ∃ b,0<cap->p=some ⟨b,0,none⟩/\G.O b=some (.s s,0) /\ ∃ vs e,w.heap[b]?=some (.cells vs e (0,0))/\cap*k<=vs.size /\
   (∀ j,j<(D.flat l).length->(vs.getD j Go.undef).oneCell'=true) /\ ∀ (j:Nat) (hj:j<(D.flat l).length),RepD G.K (D.flat l)[j] (vs.getD j Go.undef):=by
  rcases Nat.eq_zero_or_pos cap with h | h
  ·exact ⟨0,fun h'=>by omega⟩
  obtain ⟨b,vs,e,q1,q2,q3,q4,q5,q6⟩:=hb h;exact ⟨b,fun _=>⟨q1,q2,vs,e,q3,q4,q5,q6⟩⟩
 obtain ⟨R2,hE,hrep⟩:=R1.toGro (w':=w) (k:=k) (l:=l) (cap:=cap) (b:=b) (p:=p) (fun hc=>(hb' hc).1) hu hl (Nat.le_refl _) ⟨rfl,rfl,fun _ _=>rfl,rfl,Nat.le_refl _⟩ (fun _ _ _=>rfl)
  (fun hc=>by
   obtain ⟨q1,q2,vs,e,q3,q4⟩:=hb' hc;refine ⟨(Array.getElem?_eq_some_iff.1 q3).1,.inr ⟨_,q2,?_⟩,vs,e,q3,q4⟩;show ((a2A σ.env s .junk |> fun e=>({ σ with env:=e }:St)).get s).free=true
   simp [St.get,a0d,AV.free])
 have R3:=R2.reSlot (s:=s) (c := .gref σ.heap.length k) (by rw [hv];exact hrep _) rfl (by simp [St.get,a0d,AV.isBox]);refine ⟨_,?_,hE m hm,?_⟩
 ·refine R3.alike ⟨fun t => ?_,rfl,rfl⟩;simp only [St.get,a0d];split <;> rfl
 have:=R.h.nh;simp only [Gh.gro];omega
theorem Wk.groArr {m:Nat} {σ:St} (s:Nat) {q k:Nat} {l:List D} {n:Int} (hs:σ.get s = .gref q k) (hq:σ.heap[q]?=some (.gro k l)) (hl:l≠[]) (hn:(l.length:Int)=n) :
  Wk m σ { σ with env:=a2A σ.env s (.mref q k 0 n),heap:=σ.heap.set q (.arr k l) }:=by
 intro G a w hm R;have hv:=R.slots s;rw [hs] at hv;have hil:q<σ.heap.length:=(zp2.1 hq).1;have hpos:0<l.length:=List.length_pos_iff.2 hl;generalize hvv:a.tmps.getD s Go.undef=v at hv;cases hv with | gref _ _ _ p ha hc hp =>
 obtain ⟨g0,g1,g2,g3,g4⟩:=R.h.objs q _ hq;obtain ⟨vs,e,h1,h2,h3,h4,h5⟩:=g4 (by omega);have hfl:=a0b g3;have hmul:l.length*k<=G.β (.o (q+1))*k:=Nat.mul_le_mul_right _ g2;have R':RelH G (σ.heap.set q (.arr k l)) w:=by
  refine ⟨R.h.sane,by simpa using R.h.nh,fun j ob hob => ?_,R.h.kept,R.h.disj⟩;by_cases hij:q=j
  ·subst hij;rw [List.getElem?_set_self hil] at hob;cases hob;exact ⟨vs,e,h1,h2,g3,by omega,h4,h5⟩
  rw [List.getElem?_set_ne hij] at hob;exact R.h.objs j ob hob
 obtain rfl:=hp (by omega);have R2:Rel G { σ with heap:=σ.heap.set q (.arr k l) } a w:=⟨R',R.size,R.slots,R.places,R.df⟩
 have hmr:RepV G w (.s s) (.mref q k 0 n) (.slice (some ⟨G.β (.o q),0,none⟩) (G.β (.o (q+2))) (G.β (.o (q+1)))):=by
  have:=RepV.mref (G:=G) (w:=w) (.s s) q k 0 (l.length:Int) (G.β (.o q)) 0 (G.β (.o (q+1))) (by omega) (Int.le_refl _) (by omega) (by simpa using g2) (fun _=>⟨rfl,by simp⟩);rw [<-g1,<-hn];simpa using this
 have R3:=R2.reSlot (s:=s) (c := .mref q k 0 n) (by rw [hvv];exact hmr) rfl (by show (σ.get s).isBox=false;rw [hs];rfl);exact ⟨G,R3,Ext.refl _ _ _,hm⟩
end Go.Am

namespace Go.Am
theorem noE {α β:Type} {a r:β} {f:α->β} (h:(none:Option α).elim a f=r):a=r:=h
theorem soE {α β:Type} {a r:β} {x:α} {f:α->β} (h:(some x).elim a f=r):f x=r:=h
end Go.Am
