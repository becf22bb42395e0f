/- Own text: AmBuild. -/
import Derived.Test.YtlljehkmemajkaaAmPure
set_option linter.unusedSimpArgs false
set_option linter.unusedSectionVars false
namespace Go.Am
open Go
def Wd (r:Option Nat):Fence:={ fn:=fun _=>True,depth:=none,alive:=false,round:=r }
section
variable {P:Program} {r:Option Nat} {n:Nat} {o:Oper} {a:Act} {w w':World} {next:Act->World->Prop} {Q:Exit->Act->World->Prop}
theorem wp_value {v:Value} (hd : ∀ c,o.op ≠ .defer c) (h:(execOp a.eval o).run P w = .ok (.value v) w') (hn:next (a.put o.dst v) w'):o.wpIn (Wd r) n P a w next Q:=by
 refine ⟨fun _ _=>trivial,?_⟩
 rw [Oper.semAt_eq _ _ _ hd,h];exact hn
theorem wp_skip' (hd : ∀ c,o.op ≠ .defer c) (h:(execOp a.eval o).run P w = .ok .skip w') (hn:next (a.put o.dst Go.undef) w'):o.wpIn (Wd r) n P a w next Q:=by
 refine ⟨fun _ _=>trivial,?_⟩
 rw [Oper.semAt_eq _ _ _ hd,h];exact hn
end
def St.upd (σ:St) (ss:Sets) (h:Option (List Obj)):St:={ σ with env:=esets σ.env ss,heap:=h.getD σ.heap }
def StepOk (P:Program) (σ:St) (o:Oper) (ss:Sets) (h:Option (List Obj)):Prop :=
 ∀ (r:Option Nat) (n m:Nat) (G:Gh) (a:Act) (w:World) (Q:Exit->Act->World->Prop) (next:Act->World->Prop),m<=G.nh->Rel G σ a w ->
   (∀ G' a' w',Rel G' (σ.upd ss h) a' w'->Ext m G w G' w'->next a' w')->o.wpIn (Wd r) n P a w next Q
theorem getD_set (a:Array Value) (d t:Nat) (v:Value) (hd:d<a.size):(a.setIfInBounds d v).getD t Go.undef=if d=t then v else a.getD t Go.undef:=by
 by_cases h:d=t
 ·subst h;simp [Array.getD,hd]
 ·simp only [h,if_false,zp5,Array.getElem?_setIfInBounds_ne h]
theorem Rel.put {G:Gh} {σ:St} {a:Act} {w:World} (R:Rel G σ a w) {d:Nat} {v:Value} {av:AV} (hv:RepV G w (.s d) av v) (hp : ∀ r off,av = .place r off -> ∃ cs,σ.get r = .lbox cs)
  (hb:(σ.get d).isBox=false) (hd:d<σ.n):Rel G (σ.upd [(d,av)] none) (a.put (some d) v) w where
 h:=R.h
 size:=by simpa [Act.put,St.upd] using R.size
 slots t:=by
  have hd':d<a.tmps.size:=by rw [R.size];exact hd
  simp only [Act.put,getD_set _ _ _ _ hd',St.upd,St.get,esets,List.foldl_cons,List.foldl_nil,eget_eset]
  split
  ·rename_i h;subst h;exact hv
  ·exact R.slots t
 places t r off ht:=by
  simp only [St.upd,St.get,esets,List.foldl_cons,List.foldl_nil,eget_eset] at ht ⊢
  have key : ∃ cs,σ.get r = .lbox cs:=by
   split at ht
   ·exact hp r off ht
   ·exact R.places t r off ht
  obtain ⟨cs,hcs⟩:=key
  refine ⟨cs,?_⟩
  split
  ·rename_i h;subst h;rw [hcs] at hb;simp [AV.isBox] at hb
  ·exact hcs
 df:=R.df
theorem put_some {n:Nat} {g:Nat->AV} {dst:Option Tmp} {v:AV} {ss:Sets} {h:Option (List Obj)} (hp:Am.put n g dst v=some (ss,h)) :
  h=none/\((dst=none/\ss=[]) \/ ∃ d,dst=some d/\ss=[(d,v)]/\d<n/\(g d).isBox=false):=by
 unfold Am.put at hp
 cases dst with
 | none=>simp at hp;exact ⟨hp.2.symm,.inl ⟨rfl,hp.1⟩⟩
 | some d =>
   simp only at hp
   split at hp
   ·rename_i hc
    simp at hc hp
    exact ⟨hp.2.symm,.inr ⟨d,rfl,hp.1.symm,hc.1,hc.2⟩⟩
   ·simp at hp
theorem stepOk_pure {P:Program} {σ:St} {g:Nat->AV} {o:Oper} {v:AV} {ss:Sets} {h:Option (List Obj)} (hgd : ∀ d,o.dst=some d->g d=σ.get d)
  (hput:Am.put σ.n g o.dst v=some (ss,h)) (hd : ∀ c,o.op ≠ .defer c)
  (hp : ∀ r off,v = .place r off -> ∃ cs,σ.get r = .lbox cs)
  (hrun : ∀ G a w,Rel G σ a w -> ∃ val,(execOp a.eval o).run P w = .ok (.value val) w /\ ∀ d,RepV G w (.s d) v val):StepOk P σ o ss h:=by
 intro r n m G a w Q next hm R hn
 obtain ⟨val,he,hv⟩:=hrun G a w R
 obtain ⟨rfl,⟨hdst,rfl⟩ | ⟨d,hdst,rfl,hlt,hb⟩⟩:=put_some hput
 ·refine wp_value hd he (hn G _ _ ?_ (Ext.refl m G w))
  rw [hdst]
  simpa [Act.put,St.upd,esets] using R
 ·refine wp_value hd he (hn G _ _ ?_ (Ext.refl m G w))
  rw [hdst]
  exact R.put (hv d) hp (by rw [<-hgd d hdst];exact hb) hlt
theorem putO_some {n:Nat} {g:Nat->AV} {dst:Option Tmp} {v:Option AV} {r:Sets×Option (List Obj)} (hp:putO n g dst v=some r) : ∃ x,v=some x/\Am.put n g dst x=some r:=by
 unfold putO at hp
 cases v with
 | none=>simp at hp
 | some x=>exact ⟨x,rfl,hp⟩
theorem AV.free_place {v:AV} (h:v.isLocal=false) {σ:St} : ∀ r off,v = .place r off -> ∃ cs,σ.get r = .lbox cs:=by
 rintro r off rfl;simp [AV.isLocal] at h
theorem AV.free_isLocal {v:AV} (h:v.free=true):v.isLocal=false:=by cases v <;> first | rfl | (simp [AV.free] at h)
section
variable {P:Program} {T:Types} (hT:TOk P T) {σ:St} {g:Nat->AV} {o:Oper} {ss:Sets} {h':Option (List Obj)} {H:List Obj} {an:Ann}
 (hg:Less g σ) (hgd : ∀ d,o.dst=some d->g d=σ.get d) (h:evBase Ar.std T an σ.n g H o=some (ss,h'))
include hg hgd h
theorem step_pick {c x y:Operand} (hop:o.op = .pick c x y):StepOk P σ o ss h':=by
 simp only [evBase,hop] at h
 split at h
 ·rename_i t vx vy hc hx hy
  have hl:(pickAV t vx.copy vy.copy).free=true:=by
   unfold pickAV;split
   ·rfl
   ·cases t <;> simp [AV.copy_free]
  refine stepOk_pure hgd h (by simp [hop]) (AV.free_place (AV.free_isLocal hl)) ?_
  intro G a w R
  have h1:=(opv_ok hg R hc .no).1
  have h2:=(opv_ok hg R hx .no).1.copy .no
  have h3:=(opv_ok hg R hy .no).1.copy .no
  cases h1 with | d _ _ _ h1 =>
  generalize hec:a.eval c=vc at h1
  cases h1
  refine ⟨if t then a.eval x else a.eval y,by simp [execOp,hop,hec,asBool],fun d => ?_⟩
  refine RepV.anywhere (ℓ := .no) ?_ hl _
  unfold pickAV
  split
  ·rename_i b1 b2 e1 e2
   rw [e1] at h2;rw [e2] at h3
   cases h2 with | d _ _ _ h2=>cases h3 with | d _ _ _ h3 =>
   generalize a.eval x=vx' at h2
   generalize a.eval y=vy' at h3
   cases h2;cases h3
   cases t
   ·exact .d _ _ _ (.bool _)
   ·exact .d _ _ _ (.bool _)
  ·cases t
   ·exact h3
   ·exact h2
 ·simp at h
theorem step_unOp {t:TypeId} {x:Operand} (hop:o.op = .unOp .not t x):StepOk P σ o ss h':=by
 simp only [evBase,hop] at h
 split at h
 ·rename_i b hx
  refine stepOk_pure hgd h (by simp [hop]) (AV.free_place rfl) ?_
  intro G a w R
  have h1:=(opv_ok hg R hx .no).1
  cases h1 with | d _ _ _ h1 =>
  generalize hec:a.eval x=vc at h1
  cases h1
  exact ⟨.bool !b,by simp [execOp,hop,hec,Op.unary],fun d => .d _ _ _ (.bool _)⟩
 ·simp at h
theorem step_extract {x:Operand} {i:Nat} (hop:o.op = .extract x i):StepOk P σ o ss h':=by
 simp only [evBase,hop] at h
 split at h
 ·rename_i vs hx
  obtain ⟨v,hv,hp⟩:=putO_some h
  simp at hv
  obtain ⟨c,hc,rfl⟩:=hv
  refine stepOk_pure hgd hp (by simp [hop]) (AV.free_place (AV.copy_isLocal _)) ?_
  intro G a w R
  have h1:=(opv_ok hg R hx .no).1
  generalize hec:a.eval x=vc at h1
  cases h1 with | tuple _ _ vs' hs hh hl =>
  obtain ⟨hi,rfl⟩:=zp2.1 hc
  have hi':i<vs'.size:=by omega
  have:=hh i hi
  refine ⟨vs'[i],by simp [execOp,hop,hec,Instr.extract,hi'],fun d => ?_⟩
  simpa [Array.getD,hi'] using this.copy (.s d)
 ·simp at h
theorem step_makeFunc {f:FuncId} {x y:Array Operand} (hop:o.op = .makeFunc (.func f) x y):StepOk P σ o ss h':=by
 simp only [evBase,hop] at h
 split at h
 ·rename_i l1 l2 h1 h2
  have key : ∀ (xs:Array Operand) (l:List AV),xs.toList.mapM (opv T g 0)=some l -> ∀ G a w,Rel G σ a w ->
    (xs.map a.eval).size=(l.map AV.copy).length/\(∀ (i:Nat) (hi:i<(l.map AV.copy).length),RepV G w .no (l.map AV.copy)[i] ((xs.map a.eval).getD i Go.undef)):=by
   intro xs l hl G a w R
   have : ∀ (ys:List Operand) (l:List AV),ys.mapM (opv T g 0)=some l->ys.length=l.length /\ ∀ (i:Nat) (hi:i<l.length) (hi':i<ys.length),opv T g 0 ys[i]=some l[i]:=by
    intro ys
    induction ys with
    | nil=>intro l hl;simp at hl;subst hl;exact ⟨rfl,fun i hi=>by simp at hi⟩
    | cons y r ih =>
      intro l hl
      simp only [List.mapM_cons,Option.bind_eq_bind,Option.bind_eq_some_iff,Option.pure_def,zp3] at hl
      obtain ⟨v,hv,l',hl',rfl⟩:=hl
      obtain ⟨e1,e2⟩:=ih l' hl'
      refine ⟨by simp [e1],fun i hi hi' => ?_⟩
      cases i with
      | zero=>exact hv
      | succ i=>exact e2 i (by simpa using hi) (by simpa using hi')
   obtain ⟨e1,e2⟩:=this _ _ hl
   refine ⟨by simpa using e1,fun i hi => ?_⟩
   have hi1:i<l.length:=by simpa using hi
   have hi2:i<xs.size:=by simp at e1;omega
   have:=(opv_ok hg R (e2 i hi1 (by simpa using hi2)) .no).1.copy .no
   simpa [Array.getD,hi2] using this
  refine stepOk_pure hgd h (by simp [hop]) (AV.free_place rfl) ?_
  intro G a w R
  obtain ⟨e1,e2⟩:=key x l1 h1 G a w R
  obtain ⟨e3,e4⟩:=key y l2 h2 G a w R
  refine ⟨.func (.func f) (x.map a.eval) (y.map a.eval),by simp [execOp,hop,Instr.makeFunc],fun d => .func _ _ _ _ _ _ e1 e3 e2 e4 ?_ ?_⟩
  ·intro c hc;obtain ⟨c',_,rfl⟩:=List.mem_map.1 hc;exact AV.copy_isLocal _
  ·intro c hc;obtain ⟨c',_,rfl⟩:=List.mem_map.1 hc;exact AV.copy_isLocal _
 ·simp at h
theorem step_binOp {op:BinOp} {t t':TypeId} {x y:Operand} (hop:o.op = .binOp op t x y t'):StepOk P σ o ss h':=by
 simp only [evBase,hop] at h
 split at h
 ·rename_i k1 z1 k2 z2 hx hy
  have key : ∀ (dd:D),(∀ (G:Gh) (w:World),∃ val,(Go.binOp op t (.int k1 z1) (.int k2 z2)).run P w = .ok val w/\RepD G.K dd val)->putO σ.n g o.dst (some (.d dd))=some (ss,h')->StepOk P σ o ss h':=by
   intro dd hkey hp
   refine stepOk_pure hgd hp (by simp [hop]) (AV.free_place rfl) ?_
   intro G a w R
   have h1:=(opv_ok hg R hx .no).1
   have h2:=(opv_ok hg R hy .no).1
   cases h1 with | d _ _ _ h1 =>
   cases h2 with | d _ _ _ h2 =>
   generalize hec:a.eval x=vx at h1
   generalize hed:a.eval y=vy at h2
   cases h1;cases h2
   obtain ⟨val,hval,hrep⟩:=hkey G w
   have hgua:(eqGuard op t x y (.int k1 z1) (.int k2 z2)).run P w = .ok () w:=by
    unfold eqGuard
    cases op <;> simp
   exact ⟨val,by simp [execOp,hop,hec,hed,hgua,hval],fun d => .d _ _ _ hrep⟩
  have shifts:(op = .shl\/op = .shr)->putO σ.n g o.dst ((shiftOp Ar.std op k1 z1 z2).map .d)=some (ss,h')->StepOk P σ o ss h':=by
   intro ho h
   obtain ⟨v,hv,hp⟩:=putO_some h
   simp at hv
   obtain ⟨dd,hdd,rfl⟩:=hv
   refine key dd (fun G w => ?_) hp
   unfold shiftOp at hdd
   split at hdd
   ·cases hdd
   ·rename_i hn
    simp [Ar.std] at hn
    rcases ho with rfl | rfl <;> simp [Ar.std] at hdd <;> subst hdd
    ·exact ⟨_,by simp [Go.binOp,Op.shift,show ¬ z2<0 by omega],.int _ _⟩
    ·exact ⟨_,by simp [Go.binOp,Op.shift,show ¬ z2<0 by omega],.int _ _⟩
  split at h
  ·exact shifts (.inl rfl) h
  ·exact shifts (.inr rfl) h
  ·rename_i hns1 hns2
   split at h
   ·rename_i hk
    subst hk
    obtain ⟨v,hv,hp⟩:=putO_some h
    simp at hv
    obtain ⟨dd,hdd,rfl⟩:=hv
    refine key dd (fun G w => ?_) hp
    cases op
    case quo =>
     simp only [intOp] at hdd
     split at hdd
     ·cases hdd
     ·rename_i hz
      simp [Ar.std] at hz
      simp [Ar.std] at hdd;subst hdd
      exact ⟨_,by simp [Go.binOp,Op.intDiv,hz],.int _ _⟩
    case rem =>
     simp only [intOp] at hdd
     split at hdd
     ·cases hdd
     ·rename_i hz
      simp [Ar.std] at hz
      simp [Ar.std] at hdd;subst hdd
      exact ⟨_,by simp [Go.binOp,Op.intDiv,hz],.int _ _⟩
    case and=>simp [intOp] at hdd;subst hdd;refine ⟨_,?_,.int _ _⟩;simp only [Go.binOp,Op.intBits,Ar.std,bitsStd,ne_eq,not_true_eq_false,if_false];rfl
    case or=>simp [intOp] at hdd;subst hdd;refine ⟨_,?_,.int _ _⟩;simp only [Go.binOp,Op.intBits,Ar.std,bitsStd,ne_eq,not_true_eq_false,if_false];rfl
    case xor=>simp [intOp] at hdd;subst hdd;refine ⟨_,?_,.int _ _⟩;simp only [Go.binOp,Op.intBits,Ar.std,bitsStd,ne_eq,not_true_eq_false,if_false];rfl
    case andNot=>simp [intOp] at hdd;subst hdd;refine ⟨_,?_,.int _ _⟩;simp only [Go.binOp,Op.intBits,Ar.std,bitsStd,ne_eq,not_true_eq_false,if_false];rfl
    all_goals simp [intOp,Ar.std] at hdd
    all_goals subst hdd
    all_goals refine ⟨_,by simp [Go.binOp,Op.intArith,Op.intCmp];rfl,?_⟩
    all_goals first | exact .int _ _ | exact .bool _
   ·simp at h
 ·simp at h
include hT in
theorem step_convert {s t:TypeId} {x:Operand} (hop:o.op = .convert s t x):StepOk P σ o ss h':=by
 simp only [evBase,hop] at h
 split at h
 ·rename_i td0 sz k z kk zz hs0 hx hy
  refine stepOk_pure hgd h (by simp [hop]) (AV.free_place rfl) ?_
  intro G a w R
  obtain ⟨ds,hds,_⟩:=hT.under hs0
  have hu:=hT.int hx
  have h1:=(opv_ok hg R hy .no).1
  cases h1 with | d _ _ _ h1 =>
  generalize hec:a.eval x=vx at h1
  cases h1
  refine ⟨.int k (k.wrap zz),?_,fun d => .d _ _ _ (.int _ _)⟩
  simp [execOp,hop,hec,Go.convert,Go.underlying,hds,hu,Conv.intToInt]
 ·simp at h
end
theorem fieldOf_some {T:Types} {t:TypeId} {f:Nat} {ft off sz:Nat} (h:fieldOf T t f=some (ft,off,sz)) : ∃ s fs z td,T t=some ⟨s,.struct fs,z⟩/\fs[f]?=some (ft,off)/\T ft=some td/\td.size=sz:=by
 unfold fieldOf at h
 split at h
 ·rename_i s fs z ht
  split at h
  ·rename_i ft' off' hf
   simp at h
   obtain ⟨td,h1,rfl,rfl,rfl⟩:=h
   exact ⟨_,_,_,td,ht,hf,h1,rfl⟩
  ·simp at h
 ·simp at h
def AdrRep (G:Gh) (σ:St) (A:Adr) (v:Value):Prop :=
 match A with
 | .slot r off cs=>σ.get r = .lbox cs/\v = .pointer (some ⟨G.β (.s r),off,none⟩)
 | .obj a off=>a<G.nh/\v = .pointer (some ⟨G.β (.o a),off,none⟩)
 | .cells cs => ∃ (b off:Nat) (vs:Nat->Value),v = .pointer (some ⟨b,off,none⟩)/\(∀ j,j<cs.length->G.K ⟨b,off+j,none⟩=some (vs j))/\(∀ j,j<cs.length->(vs j).oneCell'=true) /\ ∀ (j:Nat) (hj:j<cs.length),RepD G.K cs[j] (vs j)
theorem adr_ok {g:Nat->AV} {σ:St} {G:Gh} {a:Act} {w:World} (hg:Less g σ) (R:Rel G σ a w) {x:Operand} {A:Adr} (h:adr g x=some A):AdrRep G σ A (a.eval x):=by
 unfold adr at h
 split at h
 ·rename_i i
  have hrep:=hg.rep R i
  split at h
  ·rename_i cs hgi
   simp at h;subst h
   rw [hgi] at hrep
   refine ⟨hg.eq hgi (by simp),?_⟩
   show a.tmps.getD i Go.undef=_
   generalize a.tmps.getD i Go.undef=v at hrep
   cases hrep;rfl
  ·rename_i r off hgi
   rw [hgi] at hrep
   split at h
   ·rename_i cs hgr
    simp at h;subst h
    refine ⟨hg.eq hgr (by simp),?_⟩
    show a.tmps.getD i Go.undef=_
    generalize a.tmps.getD i Go.undef=v at hrep
    cases hrep;rfl
   ·simp at h
  ·rename_i b off hgi
   simp at h;subst h
   rw [hgi] at hrep
   show AdrRep G σ _ (a.tmps.getD i Go.undef)
   generalize a.tmps.getD i Go.undef=v at hrep
   cases hrep with | ptr _ _ _ ha=>exact ⟨ha,rfl⟩
  ·rename_i cs hgi
   simp at h;subst h
   rw [hgi] at hrep
   show AdrRep G σ _ (a.tmps.getD i Go.undef)
   generalize a.tmps.getD i Go.undef=v at hrep
   cases hrep with | iptr _ _ b off vs hK h1 hh=>exact ⟨b,off,vs,rfl,hK,h1,hh⟩
  ·rename_i cs hgi
   simp at h;subst h
   rw [hgi] at hrep
   show AdrRep G σ _ (a.tmps.getD i Go.undef)
   generalize a.tmps.getD i Go.undef=v at hrep
   cases hrep with | d _ _ _ hrep =>
   cases hrep with | ref _ b off vs hK h1 hh=>exact ⟨b,off,vs,rfl,hK,h1,hh⟩
  ·simp at h
 ·simp at h
theorem AdrRep.pointer {G:Gh} {σ:St} {A:Adr} {v:Value} (h:AdrRep G σ A v) : ∃ b off,v = .pointer (some ⟨b,off,none⟩):=by
 cases A with
 | slot r off cs=>exact ⟨_,_,h.2⟩
 | obj a off=>exact ⟨_,_,h.2⟩
 | cells cs=>obtain ⟨b,off,vs,h,_⟩:=h;exact ⟨_,_,h⟩
theorem AdrRep.up {G:Gh} {σ:St} {w:World} {A:Adr} {b off:Nat} (h:AdrRep G σ A (.pointer (some ⟨b,off,none⟩))) (n:Nat) (ℓ:Loc):RepV G w ℓ (A.up n) (.pointer (some ⟨b,off+n,none⟩)):=by
 cases A with
 | slot r o cs=>obtain ⟨_,h⟩:=h;injection h with h;injection h with h;injection h with h1 h2;subst h1 h2;exact .place _ _ _
 | obj a o=>obtain ⟨ha,h⟩:=h;injection h with h;injection h with h;injection h with h1 h2;subst h1 h2;exact .ptr _ _ _ ha
 | cells cs =>
   obtain ⟨b',o,vs,h,hK,h1,hh⟩:=h;injection h with h;injection h with h;injection h with e1 e2;subst e1 e2
   refine .iptr _ _ _ _ (fun j=>vs (n+j)) (fun j hj => ?_) (fun j hj=>h1 _ (by simp at hj;omega)) (fun j hj => ?_)
   ·rw [show off+n+j=off+(n+j) by omega];exact hK _ (by simp at hj;omega)
   ·simpa using hh (n+j) (by simp at hj;omega)
theorem AdrRep.up_place {G:Gh} {σ:St} {A:Adr} {v:Value} (h:AdrRep G σ A v) (n:Nat) : ∀ r off,A.up n = .place r off -> ∃ cs,σ.get r = .lbox cs:=by
 intro r off e
 cases A with
 | slot r' o cs=>simp [Adr.up] at e;obtain ⟨rfl,_⟩:=e;exact ⟨cs,h.1⟩
 | obj a o=>simp [Adr.up] at e
 | cells cs=>simp [Adr.up] at e
section
variable {P:Program} {T:Types} (hT:TOk P T) {σ:St} {g:Nat->AV} {o:Oper} {ss:Sets} {h':Option (List Obj)} {H:List Obj} {an:Ann}
 (hg:Less g σ) (hgd : ∀ d,o.dst=some d->g d=σ.get d) (h:evBase Ar.std T an σ.n g H o=some (ss,h'))
include hT hg hgd h
theorem step_fieldAddr {t:TypeId} {x:Operand} {f:Nat} (hop:o.op = .fieldAddr t x f):StepOk P σ o ss h':=by
 simp only [evBase,hop] at h
 split at h
 ·rename_i ft off sz A hf hA
  split at h
  ·simp at h
  ·rename_i hsz
   obtain ⟨s,fs,z,td,ht,hfs,hft,rfl⟩:=fieldOf_some hf
   obtain ⟨fields,hu,hmap⟩:=hT.struct ht
   have hfield : ∃ fld,fields[f]?=some fld/\fld.type=ft/\fld.offset=off:=by
    rw [<-hmap] at hfs
    simp at hfs
    obtain ⟨fld,h1,h2,h3⟩:=hfs
    exact ⟨fld,h1,h2,h3⟩
   obtain ⟨fld,h1,rfl,rfl⟩:=hfield
   intro r n m G a w Q next hm R hn
   have hAr:=adr_ok hg R hA
   refine stepOk_pure hgd h (by simp [hop]) (hAr.up_place _) ?_ r n m G a w Q next hm R hn
   intro G a w R
   have hAr:=adr_ok hg R hA
   obtain ⟨b,of,hp⟩:=hAr.pointer
   rw [hp] at hAr
   refine ⟨.pointer (some ⟨b,of+fld.offset,none⟩),?_,fun d=>hAr.up _ _⟩
   simp [execOp,hop,hp,Instr.fieldAt,Go.underlying,hu,h1,Instr.sureAddr,fieldPlace,hT.size hft,hsz,Addr.add_none]
 ·simp at h
omit hT hg hgd h in
theorem flat_get {k:Nat} : ∀ {l:List D} (_:uniform k l) {i:Nat} {y:D} (_:l[i]?=some y) (j:Nat),j<k->(D.flat l)[i*k+j]?=y.cells[j]?
 | [],_,i,y,h,_,_=>by simp at h
 | x::r,hu,0,y,h,j,hj=>by
   simp at h;subst h
   have hx:x.cells.length=k:=hu _ (by simp)
   simp only [D.flat,List.flatMap_cons,Nat.zero_mul,Nat.zero_add]
   rw [zp7 (by omega)]
 | x::r,hu,i+1,y,h,j,hj=>by
   have hx:x.cells.length=k:=hu _ (by simp)
   have ih:=flat_get (l:=r) (fun z hz=>hu z (by simp [hz])) (i:=i) (y:=y) (by simpa using h) j hj
   simp only [D.flat,List.flatMap_cons] at ih ⊢
   rw [zp8 (by rw [Nat.add_mul];omega),<-ih]
   congr 1
   rw [Nat.add_mul];omega
omit hT hg hgd h in
theorem listElem {G:Gh} {k:Nat} {l:List D} {b off cap:Nat} (hr:RepD G.K (.list k l) (.slice (some ⟨b,off,none⟩) l.length cap)) {i:Nat} {y:D} (hy:l[i]?=some y) (w:World) (ℓ:Loc) :
  RepV G w ℓ (.iptr y.cells) (.pointer (some ⟨b,off+i*k,none⟩)):=by
 generalize hv:Value.slice (some ⟨b,off,none⟩) l.length cap=v at hr
 cases hr with
 | nil=>simp at hv
 | none0=>simp at hy
 | list k l b' off' cap' vs hu hc hK h1c hh =>
   simp at hv
   obtain ⟨⟨rfl,rfl⟩,_⟩:=hv
   have hyk:y.cells.length=k:=hu y (List.mem_of_getElem? hy)
   have key : ∀ j,j<k -> ∃ h:i*k+j<(D.flat l).length,∀ hj:j<y.cells.length,(D.flat l)[i*k+j]=y.cells[j]:=by
    intro j hj
    have e:=flat_get hu hy j hj
    rw [zp1 (by omega:j<y.cells.length)] at e
    obtain ⟨h1,h2⟩:=zp2.1 e
    exact ⟨h1,fun _=>h2⟩
   refine .iptr _ _ _ _ (fun j=>vs (i*k+j)) (fun j hj => ?_) (fun j hj=>h1c _ (key j (by omega)).1) (fun j hj => ?_)
   ·obtain ⟨h1,_⟩:=key j (by omega)
    rw [show off+i*k+j=off+(i*k+j) by omega]
    exact hK _ h1
   ·obtain ⟨h1,h2⟩:=key j (by omega)
    have:=hh _ h1
    rwa [h2 hj] at this
omit hT hg hgd h in
theorem RepD.slice {K:Addr->Option Value} {k:Nat} {l:List D} {v:Value} (h:RepD K (.list k l) v) :
  (l=[] /\ ∃ a,v = .slice a 0 0) \/ ∃ b off cap,v = .slice (some ⟨b,off,none⟩) l.length cap:=by
 cases h with
 | nil=>exact .inl ⟨rfl,none,rfl⟩
 | none0 k a=>exact .inl ⟨rfl,some a,rfl⟩
 | list k l b off cap vs=>exact .inr ⟨b,off,cap,rfl⟩
omit hT hgd h in
theorem list_of_slot {G:Gh} {a:Act} {w:World} (R:Rel G σ a w) {i k:Nat} {l:List D} (hgi:g i = .d (.list k l)\/g i = .own k l):RepD G.K (.list k l) (a.eval (.tmp i)):=by
 have hrep:=hg.rep R i
 rcases hgi with hgi | hgi <;> rw [hgi] at hrep <;> cases hrep <;> assumption
theorem step_indexAddr {t:TypeId} {x i:Operand} (hop:o.op = .indexAddr t x i):StepOk P σ o ss h':=by
 simp only [evBase,hop,idxLo_std,idxHi_std,idxNat_std,blk_eq] at h
 split at h
 ·rename_i sz m e zc kz z ht hi
  split at h
  ·rename_i td A hte hA
   split at h
   ·rename_i hb
    simp [Ar.std] at hb
    intro r n m' G a w Q next hm R hn
    have hAr:=adr_ok hg R hA
    refine stepOk_pure hgd h (by simp [hop]) (hAr.up_place _) ?_ r n m' G a w Q next hm R hn
    intro G a w R
    have hAr:=adr_ok hg R hA
    obtain ⟨b,of,hp⟩:=hAr.pointer
    rw [hp] at hAr
    have h1:=(opv_ok hg R hi .no).1
    cases h1 with | d _ _ _ h1 =>
    generalize hei:a.eval i=vi at h1
    cases h1
    refine ⟨.pointer (some ⟨b,of+z.toNat*td.size,none⟩),?_,fun d=>hAr.up _ _⟩
    simp [execOp,hop,hp,hei,Instr.indexAt,asIntOf,Go.underlying,hT.array ht,Instr.sureAddr,hb,hT.size hte,Addr.add_none]
   ·simp at h
  ·simp at h
 ·rename_i sz e zc kz z ht hi
  split at h
  ·rename_i td hte
   have key : ∀ {k:Nat} {l:List D},(∀ G a w,Rel G σ a w->RepD G.K (.list k l) (a.eval x)) ->
     (if (decide (0<=z)&&decide (k=td.size))=true then match Ar.std.lget l z.toNat with | some y=>Am.put σ.n g o.dst (.iptr y.cells) | none=>none else none)=some (ss,h')->StepOk P σ o ss h':=by
    intro k l hlist h
    split at h
    ·rename_i hb
     simp [Ar.std] at hb
     split at h
     ·rename_i y hy
      simp only [Ar.std] at hy
      refine stepOk_pure hgd h (by simp [hop]) (AV.free_place rfl) ?_
      intro G a w R
      have hl:=hlist G a w R
      have h1:=(opv_ok hg R hi .no).1
      cases h1 with | d _ _ _ h1 =>
      generalize hei:a.eval i=vi at h1
      cases h1
      rcases hl.slice with ⟨rfl,_⟩ | ⟨b,off,cap,hv⟩
      ·simp at hy
      ·rw [hv] at hl
       have hlt:z.toNat<l.length:=(zp2.1 hy).1
       have hz:0<=z/\z<(l.length:Int):=⟨hb.1,by omega⟩
       refine ⟨.pointer (some ⟨b,off+z.toNat*td.size,none⟩),?_,fun d=>by rw [<-hb.2];exact listElem hl hy w _⟩
       simp [execOp,hop,hv,hei,Instr.indexAt,asIntOf,Go.underlying,hT.slice ht,hz,hT.size hte,Addr.add_none]
     ·simp at h
    ·simp at h
   split at h
   ·rename_i k l hx
    cases x with
    | tmp i'=>exact key (fun G a w R=>list_of_slot hg R (.inl hx)) h
    | _=>simp at hx
   ·rename_i k l hx
    cases x with
    | tmp i'=>exact key (fun G a w R=>list_of_slot hg R (.inr hx)) h
    | _=>simp at hx
   ·simp at h
  ·simp at h
 ·simp at h
theorem step_field {t:TypeId} {x:Operand} {f:Nat} (hop:o.op = .field t x f):StepOk P σ o ss h':=by
 simp only [evBase,hop] at h
 split at h
 ·rename_i ft off sz hf
  obtain ⟨s,fs,z,td,ht,hfs,hft,rfl⟩:=fieldOf_some hf
  obtain ⟨fields,hu,hmap⟩:=hT.struct ht
  have hfield : ∃ fld,fields[f]?=some fld/\fld.type=ft/\fld.offset=off:=by
   rw [<-hmap] at hfs
   simp at hfs
   obtain ⟨fld,h1,h2,h3⟩:=hfs
   exact ⟨fld,h1,h2,h3⟩
  obtain ⟨fld,hfl,rfl,rfl⟩:=hfield
  simp only [hft] at h
  cases hx:opv T g t x with
  | none=>simp [hx] at h
  | some v =>
    simp only [hx] at h
    split at h
    ·rename_i hag
     obtain ⟨av,hav,hp⟩:=putO_some h
     have hread : ∀ (G:Gh) (a:Act) (w:World),Rel G σ a w -> ∃ vs,a.eval x = .agg vs /\ ∃ val,(part fld.type vs fld.offset).run P w = .ok val w/\av.free=true /\ ∀ ℓ,RepV G w ℓ av val:=by
      intro G a w R
      have hr:=(opv_ok hg R hx (.no)).1
      generalize a.eval x=xv at hr
      cases v with
      | d y =>
        cases y with
        | agg ds =>
          cases hr with | d _ _ _ hd =>
          cases hd with | agg _ vs hs hh h1 =>
          refine ⟨vs,rfl,part_ok hT hft (cs:=ds.map .d) (by simpa using hs) (fun j hj=>⟨.no,by simpa using RepV.d .no _ _ (hh j (by simpa using hj))⟩) ?_ hav⟩
          refine isCell_of_rep (vs:=fun j=>vs.getD j Go.undef) (fun j hj=>h1 _ ?_) hh
          simp [Array.getD,hs,hj]
        | _=>simp [AV.isAggr] at hag
      | agg cs =>
        cases hr with | agg _ _ vs hs hh hc hf =>
        exact ⟨vs,rfl,part_ok hT hft hs (fun j hj=>⟨.no,hh j hj⟩) hc hav⟩
      | _=>simp [AV.isAggr] at hag
     have hfree:(∃ G a w,Rel G σ a w)->av.free=true:=by
      rintro ⟨G,a,w,R⟩
      obtain ⟨vs,_,val,_,h3,_⟩:=hread G a w R
      exact h3
     intro r n m G a w Q next hm R hn
     exact stepOk_pure hgd hp (by simp [hop]) (AV.free_place (AV.free_isLocal (hfree ⟨G,a,w,R⟩))) (fun G a w R=>by
      obtain ⟨vs,h1,val,h2,h3,h4⟩:=hread G a w R
      exact ⟨val,by simp [execOp,hop,Instr.field,Go.underlying,hu,h1,hfl,asAgg,h2],fun d=>h4 _⟩) r n m G a w Q next hm R hn
    ·simp at h
 ·simp at h
omit hT hgd h in
theorem listOf_ok {t:TypeId} {x:Operand} {k:Nat} {l:List D} (hl:listOf T g t x=some (k,l)) {G:Gh} {a:Act} {w:World} (R:Rel G σ a w):RepD G.K (.list k l) (a.eval x):=by
 unfold listOf at hl
 split at hl
 ·rename_i k' l' hx
  simp at hl;obtain ⟨rfl,rfl⟩:=hl
  have:=(opv_ok hg R hx .no).1
  cases this;assumption
 ·rename_i k' l' hx
  simp at hl;obtain ⟨rfl,rfl⟩:=hl
  have:=(opv_ok hg R hx .no).1
  cases this;assumption
 ·simp at hl
theorem step_len {args:Array Operand} {ts:Array TypeId} (hop:o.op = .call { callee := .builtin .len,args:=args,argTypes:=ts }):StepOk P σ o ss h':=by
 simp only [evBase,hop] at h
 split at h
 ·rename_i x t hargs hts
  obtain rfl:args = #[x]:=by cases args;simp_all
  obtain rfl:ts = #[t]:=by cases ts;simp_all
  split at h
  ·rename_i sz e z ht
   split at h
   ·rename_i k l hl
    refine stepOk_pure hgd h (by simp [hop]) (AV.free_place rfl) ?_
    intro G a w R
    have hr:=listOf_ok hg hl R
    have hsl : ∃ b cap,a.eval x = .slice b l.length cap:=by
     rcases hr.slice with ⟨rfl,oa,hv⟩ | ⟨b,off,cap,hv⟩
     ·exact ⟨_,_,hv⟩
     ·exact ⟨_,_,hv⟩
    obtain ⟨b,cap,hv⟩:=hsl
    refine ⟨.int .i64 l.length,?_,fun d => .d _ _ _ (.int _ _)⟩
    simp [execOp,hop,resolve,invoke,Go.builtin,Builtin.len_,hv,Go.underlying,hT.slice ht,goInt]
   ·simp at h
  ·simp at h
 ·simp at h
omit hT hgd h in
theorem bound_some {d:Int} {x:Operand} {z:Int} (hb:bound g T d (some x)=some z) {G:Gh} {a:Act} {w:World} (R:Rel G σ a w) : ∃ k,a.eval x = .int k z:=by
 unfold bound at hb
 simp only at hb
 split at hb
 ·rename_i k z' hx
  simp at hb;subst hb
  have:=(opv_ok hg R hx .no).1
  cases this with | d _ _ _ h =>
  generalize a.eval x=v at h
  cases h;exact ⟨_,rfl⟩
 ·simp at hb
end
theorem flat_length {k:Nat} : ∀ {l:List D},uniform k l->(D.flat l).length=l.length*k
 | [],_=>by simp [D.flat]
 | x::r,hu=>by
   have ih:=flat_length (l:=r) (fun z hz=>hu z (by simp [hz]))
   have hx:x.cells.length=k:=hu _ (by simp)
   simp only [D.flat,List.flatMap_cons,List.length_append,List.length_cons] at ih ⊢
   rw [ih,hx,Nat.add_mul];omega
theorem flat_append (l m:List D):D.flat (l++m)=D.flat l++D.flat m:=by simp [D.flat]
theorem flat_drop {k:Nat} {l:List D} (hu:uniform k l) (n:Nat):D.flat (l.drop n)=(D.flat l).drop (n*k):=by
 by_cases hn:n<=l.length
 ·have this:(D.flat (l.take n)).length=n*k:=by
   rw [flat_length (k:=k) (fun x hx=>hu x (List.mem_of_mem_take hx))];simp [Nat.min_eq_left hn]
  have e:D.flat l=D.flat (l.take n)++D.flat (l.drop n):=by rw [<-flat_append,List.take_append_drop]
  rw [e,List.drop_left' this]
 ·rw [List.drop_of_length_le (by omega),List.drop_of_length_le]
  ·rfl
  ·rw [flat_length hu];exact Nat.mul_le_mul_right k (by omega)
theorem flat_take {k:Nat} {l:List D} (hu:uniform k l) (n:Nat):D.flat (l.take n)=(D.flat l).take (n*k):=by
 by_cases hn:n<=l.length
 ·have this:(D.flat (l.take n)).length=n*k:=by
   rw [flat_length (k:=k) (fun x hx=>hu x (List.mem_of_mem_take hx))];simp [Nat.min_eq_left hn]
  have e:D.flat l=D.flat (l.take n)++D.flat (l.drop n):=by rw [<-flat_append,List.take_append_drop]
  rw [e,List.take_left' this]
 ·rw [List.take_of_length_le (by omega),List.take_of_length_le]
  rw [flat_length hu];exact Nat.mul_le_mul_right k (by omega)
theorem uniform.sub {k:Nat} {l:List D} (hu:uniform k l) (n m:Nat):uniform k ((l.drop n).take m):=fun x hx=>hu x (List.mem_of_mem_drop (List.mem_of_mem_take hx))
theorem RepD.sub {K:Addr->Option Value} {k:Nat} {l:List D} {b off cap:Nat} (hr:RepD K (.list k l) (.slice (some ⟨b,off,none⟩) l.length cap)) {lo hi cap':Nat} (h1:lo<=hi) (h2:hi<=l.length)
  (h3:hi-lo<=cap'):RepD K (.list k ((l.drop lo).take (hi-lo))) (.slice (some ⟨b,off+lo*k,none⟩) (hi-lo) cap'):=by
 generalize hv:Value.slice (some ⟨b,off,none⟩) l.length cap=v at hr
 cases hr with
 | nil=>simp at hv
 | none0 =>
   simp at h2
   subst h2
   obtain rfl:lo=0:=by omega
   simpa using RepD.list (K:=K) k [] b off cap' (fun _=>Go.undef) (fun x hx=>by simp at hx) (by simp) (fun j hj=>by simp [D.flat] at hj) (fun j hj=>by simp [D.flat] at hj) (fun j hj=>by simp [D.flat] at hj)
 | list k l b' off' cap'' vs hu hc hK h1c hh =>
   simp at hv
   obtain ⟨⟨rfl,rfl⟩,_⟩:=hv
   have hlen:((l.drop lo).take (hi-lo)).length=hi-lo:=by simp;omega
   have hfl:D.flat ((l.drop lo).take (hi-lo))=((D.flat l).drop (lo*k)).take ((hi-lo)*k):=by
    rw [flat_take (k:=k) (fun x hx=>hu x (List.mem_of_mem_drop hx)),flat_drop hu]
   have hflen:=flat_length hu
   have:=RepD.list (K:=K) k ((l.drop lo).take (hi-lo)) b (off+lo*k) cap' (fun j=>vs (lo*k+j)) (hu.sub _ _) (by omega) (fun j hj => ?_) (fun j hj => ?_) (fun j hj => ?_)
   ·rwa [hlen] at this
   ·rw [flat_length (hu.sub _ _),hlen] at hj
    have hlt:lo*k+j<(D.flat l).length:=by
     rw [hflen]
     calc lo*k+j<lo*k+(hi-lo)*k:=by omega
      _=hi*k:=by rw [<-Nat.add_mul];congr 1;omega
      _<=l.length*k:=Nat.mul_le_mul_right k h2
    rw [show off+lo*k+j=off+(lo*k+j) by omega]
    exact hK _ hlt
   ·rw [hfl] at hj
    exact h1c _ (by simp at hj;omega)
   ·have hj':=hj
    rw [hfl] at hj'
    have hlt:lo*k+j<(D.flat l).length:=by
     simp at hj';omega
    have:=hh (lo*k+j) hlt
    have e:(D.flat ((l.drop lo).take (hi-lo)))[j]=(D.flat l)[lo*k+j]:=by
     simp only [hfl,List.getElem_take,List.getElem_drop]
    rw [e];exact this
theorem RepD.empty (K:Addr->Option Value) (k:Nat) (b off cap:Nat):RepD K (.list k []) (.slice (some ⟨b,off,none⟩) 0 cap) :=
 .list k [] b off cap (fun _=>Go.undef) (fun x hx=>by simp at hx) (Nat.zero_le _) (fun j hj=>by simp [D.flat] at hj) (fun j hj=>by simp [D.flat] at hj) (fun j hj=>by simp [D.flat] at hj)
section
variable {P:Program} {T:Types} (hT:TOk P T) {σ:St} {g:Nat->AV} {o:Oper} {ss:Sets} {h':Option (List Obj)} {H:List Obj} {an:Ann}
 (hg:Less g σ) (hgd : ∀ d,o.dst=some d->g d=σ.get d) (h:evBase Ar.std T an σ.n g H o=some (ss,h'))
include hT hg hgd h
omit hT hg hgd h in
theorem run_sliceBounds {w:World} {len cap nl nh m:Nat} {low high max:Option Value} (hlo:(low=none/\nl=0) \/ ∃ k,low=some (.int k nl))
  (hhi:(high=none/\nh=len) \/ ∃ k,high=some (.int k nh)) (hmx:(max=none/\m=cap)\/((∃ k,max=some (.int k m))/\high.isSome=true))
  (h1:nl<=nh) (h2:nh<=m) (h3:m<=cap):(Instr.sliceBounds true len cap low high max).run P w = .ok (nl,nh,m) w:=by
 have h4:nh<=cap:=by omega
 have c1:=Nat.not_lt.2 h1
 have c2:=Nat.not_lt.2 h2
 have c3:=Nat.not_lt.2 h3
 have c4:=Nat.not_lt.2 h4
 rcases hmx with ⟨rfl,rfl⟩ | ⟨⟨km,rfl⟩,hhs⟩
 ·rcases hhi with ⟨rfl,rfl⟩ | ⟨kh,rfl⟩ <;> rcases hlo with ⟨rfl,rfl⟩ | ⟨kl,rfl⟩ <;> simp [Instr.sliceBounds,Instr.sliceBound,asIntOf,h1,h4,c1,c4]
 ·rcases hhi with ⟨rfl,rfl⟩ | ⟨kh,rfl⟩
  ·simp at hhs
  ·rcases hlo with ⟨rfl,rfl⟩ | ⟨kl,rfl⟩ <;> simp [Instr.sliceBounds,Instr.sliceBound,asIntOf,h1,h2,h3,c1,c2,c3]
omit hT hg hgd h in
theorem elemSize_some {t:TypeId} {k:Nat} (he:elemSize T t=some k) : ∃ sz e z td,T t=some ⟨sz,.slice e,z⟩/\T e=some td/\td.size=k:=by
 unfold elemSize at he
 split at he
 ·rename_i sz e z ht
  simp at he
  obtain ⟨td,h1,h2⟩:=he
  exact ⟨_,_,_,td,ht,h1,h2⟩
 ·simp at he
theorem step_slice {t:TypeId} {x:Operand} {lo hi mx:Option Operand} (hop:o.op = .slice t x lo hi mx):StepOk P σ o ss h':=by
 simp only [evBase,hop] at h
 split at h
 ·rename_i es hes
  obtain ⟨sz,e,z,td,ht,hte,rfl⟩:=elemSize_some hes
  split at h
  ·rename_i k l hl
   split at h
   ·simp at h
   rename_i hk
   obtain rfl:k=td.size:=by simpa using hk
   split at h
   ·rename_i zh zl hbh hbl
    split at h
    ·rename_i hb
     simp [Ar.std] at hb
     obtain ⟨⟨⟨hb0,hb1⟩,hb2⟩,hb3⟩:=hb
     obtain ⟨nl,rfl⟩:=zp9 hb0
     obtain ⟨nh,rfl⟩:=zp9 (Int.le_trans hb0 hb1)
     have hnl:nl<=nh:=by omega
     have hnh:nh<=l.length:=by omega

     have key : ∀ G a w,Rel G σ a w -> ∀ (b:Option Addr) (cap m:Nat),a.eval x = .slice b l.length cap->nh<=m->m<=cap ->
       ((mx=none/\m=cap) \/ ∃ y kk,mx=some y/\a.eval y = .int kk m) ->
       (execOp a.eval o).run P w = .ok (.value (.slice (if m=nl then b else b.map (·.add (nl*td.size))) (nh-nl) (m-nl))) w:=by
      intro G a w R b cap m hx h1 h2 hm
      have hrun:=run_sliceBounds (P:=P) (w:=w) (len:=l.length) (cap:=cap) (nl:=nl) (nh:=nh) (m:=m) (low:=lo.map a.eval) (high:=hi.map a.eval) (max:=mx.map a.eval)
       (by cases lo with
        | none=>simp [bound] at hbl;exact .inl ⟨rfl,by omega⟩
        | some y=>obtain ⟨kk,e⟩:=bound_some hg hbl R;exact .inr ⟨kk,by simp [e]⟩)
       (by cases hi with
        | none=>simp [bound,Ar.std] at hbh;exact .inl ⟨rfl,by omega⟩
        | some y=>obtain ⟨kk,e⟩:=bound_some hg hbh R;exact .inr ⟨kk,by simp [e]⟩)
       (by rcases hm with ⟨rfl,rfl⟩ | ⟨y,kk,rfl,e⟩
           ·exact .inl ⟨rfl,rfl⟩
           ·refine .inr ⟨⟨kk,by simp [e]⟩,?_⟩
            rcases hb3 with hb3 | hb3
            ·simp at hb3
            ·cases hi <;> simp_all) hnl h1 h2
      simp [execOp,hop,Instr.sliceAt,Instr.slice,Go.underlying,hT.slice ht,hx,hrun,hT.size hte]
     have hnl0:(nl:Int).toNat=nl:=by omega
     have hnh0:(nh:Int).toNat=nh:=by omega
     cases mx with
     | none =>
       simp only [Ar.std,hnl0,hnh0] at h
       refine stepOk_pure hgd h (by simp [hop]) (AV.free_place rfl) ?_
       intro G a w R
       have hr:=listOf_ok hg hl R
       rcases hr.slice with ⟨rfl,oa,hv⟩ | ⟨b,off,cap,hv⟩
       ·refine ⟨_,key G a w R oa 0 0 (by simpa using hv) (by simpa using hnh) (by omega) (.inl ⟨rfl,rfl⟩),fun d => .d _ _ _ ?_⟩
        have e1:nh=0:=by simpa using hnh
        have e2:nl=0:=by omega
        subst e1 e2
        simpa using RepD.zero _ td.size oa
       ·rw [hv] at hr
        have hcap:l.length<=cap:=by
         generalize hv':Value.slice (some ⟨b,off,none⟩) l.length cap=v at hr
         cases hr with
         | nil=>simp at hv'
         | none0=>simp
         | list k l b' off' cap' vs hu hc=>simp at hv';omega
        refine ⟨_,key G a w R _ cap cap hv (by omega) (Nat.le_refl _) (.inl ⟨rfl,rfl⟩),fun d => .d _ _ _ ?_⟩
        by_cases hm:cap=nl
        ·have e1:nh-nl=0:=by omega
         rw [if_pos hm,e1,show cap-nl=0 by omega]
         simpa using RepD.empty G.K td.size b off 0
        ·simp only [if_neg hm,Option.map_some,Addr.add_none]
         exact hr.sub hnl hnh (by omega)
     | some y =>
       simp only at h
       cases hby:bound g T 0 (some y) with
       | none=>simp [hby] at h
       | some zm =>
         simp only [hby] at h
         split at h
         ·rename_i hzm
          simp [Ar.std] at hzm
          subst hzm
          simp only [Ar.std,hnl0,hnh0] at h
          refine stepOk_pure hgd h (by simp [hop]) (AV.free_place rfl) ?_
          intro G a w R
          have hr:=listOf_ok hg hl R
          obtain ⟨kk,hey⟩:=bound_some hg hby R
          rcases hr.slice with ⟨rfl,oa,hv⟩ | ⟨b,off,cap,hv⟩
          ·have e1:nh=0:=by simpa using hnh
           have e2:nl=0:=by omega
           subst e1 e2
           refine ⟨_,key G a w R oa 0 0 (by simpa using hv) (by omega) (by omega) (.inr ⟨y,kk,rfl,by simpa using hey⟩),fun d => .lim _ _ _ _ (by simpa using RepD.zero _ td.size oa) ?_⟩
           intro aa n cap e;simp at e;omega
          ·rw [hv] at hr
           have hcap:l.length<=cap:=by
            generalize hv':Value.slice (some ⟨b,off,none⟩) l.length cap=v at hr
            cases hr with
            | nil=>simp at hv'
            | none0=>simp
            | list k l b' off' cap' vs hu hc=>simp at hv';omega
           refine ⟨_,key G a w R _ cap nh hv (Nat.le_refl _) (by omega) (.inr ⟨y,kk,rfl,hey⟩),fun d => .lim _ _ _ _ ?_ ?_⟩
           ·by_cases hm:nh=nl
            ·have e1:nh-nl=0:=by omega
             rw [if_pos hm,e1]
             simpa using RepD.empty G.K td.size b off 0
            ·simp only [if_neg hm,Option.map_some,Addr.add_none]
             exact hr.sub hnl hnh (Nat.le_refl _)
           ·intro aa n cap' e
            simp at e;omega
         ·simp at h
    ·simp at h
   ·simp at h
  ·simp at h
 ·split at h
  ·rename_i sz m e zc cs ht hA
   split at h
   ·rename_i td hte
    split at h
    ·rename_i hb
     obtain ⟨hb1,hb2,hb3⟩:=hb
     refine stepOk_pure hgd h (by simp [hop]) (AV.free_place rfl) ?_
     intro G a w R
     obtain ⟨b,off,vs,hp,hK,h1,hh⟩:=adr_ok hg R hA
     have hone : ∀ (l:List D),l.all D.isOne=true->uniform 1 l/\D.flat l=l:=by
      intro l
      induction l with
      | nil=>intro _;exact ⟨fun x hx=>by simp at hx,rfl⟩
      | cons y r ih =>
        intro hl
        simp only [List.all_cons,zp4] at hl
        obtain ⟨i1,i2⟩:=ih hl.2
        have hy:y.cells=[y]:=by cases y <;> first | rfl | (simp [D.isOne] at hl)
        refine ⟨fun x hx => ?_,by unfold D.flat at i2 ⊢;rw [List.flatMap_cons,hy,i2];rfl⟩
        rcases List.mem_cons.1 hx with rfl | hx
        ·rw [hy];rfl
        ·exact i1 x hx
     obtain ⟨u1,u2⟩:=hone (cs.take m) hb3
     have hl:(cs.take m).length=m:=by simp;omega
     refine ⟨.slice (some ⟨b,off,none⟩) m m,?_,fun d => .d _ _ _ ?_⟩
     ·have e1 : ∀ q:Nat,({ block:=b,off:=off,spot:=none }:Addr).add (q*0)=⟨b,off,none⟩:=fun q=>by rw [Nat.mul_zero];rfl
      simp [execOp,hop,hp,Instr.sliceAt,Go.underlying,hT.array ht,Instr.sureAddr,Instr.sliceBounds,hT.size hte]
      try (intro;rfl)
     ·have:=RepD.list (K:=G.K) 1 (cs.take m) b off m vs u1 (by omega) (by rw [u2,hl];exact fun j hj=>hK j (by omega)) (by rw [u2,hl];exact fun j hj=>h1 j (by omega))
       (by simp only [u2];intro j hj;rw [List.getElem_take];exact hh j (by rw [hl] at hj;omega))
      rwa [hl] at this
    ·simp at h
   ·simp at h
  ·simp at h
end
end Go.Am

namespace Go.Am
open Go
def Gh.move (G:Gh) (ℓ ℓ':Loc):Gh :=
 { G with O:=fun b=>match G.O b with
     | some (x,f)=>some (if x=ℓ then ℓ' else x,f)
     | none=>none }
theorem move_O {G:Gh} {ℓ ℓ':Loc} {b:Nat} {x:Loc} {f:Nat} (h:(G.move ℓ ℓ').O b=some (x,f)) : ∃ y,G.O b=some (y,f)/\x=if y=ℓ then ℓ' else y:=by
 simp only [Gh.move] at h
 split at h
 ·rename_i y f' hO
  simp at h
  obtain ⟨h1,h2⟩:=h
  exact ⟨y,by rw [hO,h2],h1.symm⟩
 ·simp at h
theorem Gh.move_pres (G:Gh) (w:World) (ℓ ℓ':Loc):Pres G (G.move ℓ ℓ') w w (fun x=>x≠ℓ) where
 K:=KLe.refl _
 O b x f hx hO:=by simp [Gh.move,hO,hx]
 β _ _:=rfl
 nh:=Nat.le_refl _
theorem Tail.move {G:Gh} {w:World} {ℓ ℓ':Loc} {k:Nat} {v:Value} (h:Tail G w ℓ k v):Tail (G.move ℓ ℓ') w ℓ' k v:=by
 intro a n cap hv hn
 obtain ⟨f,c,e,h1,h2,h3,h4⟩:=h a n cap hv hn
 exact ⟨f,c,e,by simp [Gh.move,h1],h2,h3,h4⟩
theorem Sane.move {G:Gh} (h:Sane G) {ℓ ℓ':Loc} (h0:ℓ'.root ≠ .no):Sane (G.move ℓ ℓ'):=⟨fun b x f hO=>by
 obtain ⟨y,hy,rfl⟩:=move_O hO
 split
 ·exact h0
 ·exact h.no b y f hy⟩
theorem RelH.move {G:Gh} {H:List Obj} {w:World} (R:RelH G H w) (ℓ ℓ':Loc) (h0:ℓ'.root ≠ .no)
  (ho : ∀ (i:Nat) (ob:Obj),H[i]?=some ob->RepObj (G.move ℓ ℓ') w i ob):RelH (G.move ℓ ℓ') H w where
 sane:=R.sane.move h0
 nh:=R.nh
 objs:=ho
 kept:=R.kept
 disj b x f hO:=by
  obtain ⟨y,hy,rfl⟩:=move_O hO
  exact R.disj b y f hy
theorem Ext.move (m:Nat) (G:Gh) (w:World) (ℓ ℓ':Loc):Ext m G w (G.move ℓ ℓ') w where
 K:=KLe.refl _
 new x v h := .inl h
 others b _ hO:=⟨rfl,by simp [Gh.move,hO]⟩
 size:=Nat.le_refl _
 β _ _:=rfl
 io:=⟨rfl,rfl,fun _ _=>rfl,rfl,Nat.le_refl _⟩
theorem RelF.move {G:Gh} {ds:List Deferred} {w:World} (h:RelF G ds w) {ℓ ℓ':Loc} (hl:ℓ ≠ .df):RelF (G.move ℓ ℓ') ds w :=
 ⟨h.1,fun d hd=>by
  obtain ⟨r,h1,h2,h3⟩:=h.2 d hd
  exact ⟨r,h1,by simp [Gh.move,h2,Ne.symm hl],h3⟩⟩
theorem taken_some {T:Types} {an:Ann} {g:Nat->AV} {t:TypeId} {x:Operand} {v:AV} {ss:Sets} (h:taken T an g t x=some (v,ss)) :
  (ss=[]/\v.isLocal=false /\ ∀ {σ G a w},Less g σ->Rel G σ a w -> ∀ ℓ,RepV G w ℓ v (a.eval x)) \/
  ∃ s k l,x = .tmp s/\g s = .own k l/\v = .own k l/\ss=[(s,.d (.list k l))]:=by
 unfold taken at h
 split at h
 ·rename_i s
  split at h
  ·split at h
   ·rename_i k l hgs
    simp at h
    exact .inr ⟨s,k,l,rfl,hgs,h.1.symm,h.2.symm⟩
   ·simp at h
    obtain ⟨rfl,rfl⟩:=h
    exact .inl ⟨rfl,AV.copy_isLocal _,fun hg R ℓ=>(hg.rep R s).copy ℓ⟩
  ·simp at h
   obtain ⟨rfl,rfl⟩:=h
   exact .inl ⟨rfl,AV.copy_isLocal _,fun hg R ℓ=>(hg.rep R s).copy ℓ⟩
 ·simp at h
  obtain ⟨y,hy,rfl,rfl⟩:=h
  refine .inl ⟨rfl,?_,fun hg R ℓ=>(opv_ok hg R hy ℓ).1⟩
  cases x with
  | tmp i=>rename_i hx;exact absurd rfl (hx i)
  | const v=>exact (constAV_ok hy ⟨fun _=>none,fun _=>none,fun _=>0,0⟩ default .no).2
  | func f=>simp [opv] at hy;subst hy;rfl
  | global k=>simp [opv] at hy
section
variable {P:Program} {T:Types} {σ:St} {g:Nat->AV} {o:Oper} {ss:Sets} {h':Option (List Obj)} {H:List Obj} {an:Ann}
 (hg:Less g σ) (hgd : ∀ d,o.dst=some d->g d=σ.get d) (h:evBase Ar.std T an σ.n g H o=some (ss,h'))
include hg hgd h
theorem step_move {x:Operand} (hop:o.op = .move x\/o.op = .assign x):StepOk P σ o ss h':=by
 have hrun : ∀ (a:Act) (w:World),(execOp a.eval o).run P w = .ok (.value (a.eval x)) w:=by
  intro a w
  rcases hop with hop | hop <;> simp [execOp,hop]
 have hnd : ∀ c,o.op ≠ .defer c:=by rcases hop with hop | hop <;> simp [hop]
 have h:(match taken T an g o.type x,o.dst with
  | some (v,ss),some d=>if (decide (d<σ.n) && !(g d).isBox && !(slotOf x).contains d)=true then some (ss++[(d,v)],none) else none
  | _,_=>none)=some (ss,h'):=by
  rcases hop with hop | hop <;> (simp only [evBase,hop] at h;exact h)
 split at h
 ·rename_i v ss0 d hv hd
  split at h
  ·rename_i hc
   simp at hc
   obtain ⟨⟨hlt,hbox⟩,hne⟩:=hc
   simp at h
   obtain ⟨rfl,rfl⟩:=h
   rcases taken_some hv with ⟨rfl,hl,hrep⟩ | ⟨s,k,l,rfl,hgs,rfl,rfl⟩
   ·refine stepOk_pure (v:=v) hgd (by simp [Am.put,hd,hlt,hbox]) hnd (AV.free_place hl) ?_
    intro G a w R
    exact ⟨_,hrun a w,fun d=>hrep hg R _⟩
   ·intro r n m G a w Q next hm R hn
    have hs:σ.get s = .own k l:=hg.eq hgs (by simp)
    have hsd:s≠d:=by simpa [slotOf,eq_comm] using hne
    have hrep:=R.slots s
    rw [hs] at hrep
    cases hrep with | own _ _ _ _ hr ht =>
    refine wp_value hnd (hrun a w) (hn (G.move (.s s) (.s d)) _ _ ?_ (Ext.move m G w _ _))
    rw [hd]
    have hd':d<a.tmps.size:=by rw [R.size];exact hlt
    have hdb:(σ.get d).isBox=false:=by rw [<-hgd d hd];exact hbox
    have hpr:=G.move_pres w (.s s) (.s d)
    refine ⟨R.h.move _ _ (by simp [Loc.root]) ?_,by simpa [Act.put,St.upd] using R.size,?_,?_,R.df.move (by simp)⟩
    ·intro i ob hob
     exact (R.h.objs i ob hob).pres R.h.sane (by rw [<-R.h.nh];exact (zp2.1 hob).1) hpr (by simp) (by simp)
    ·intro t
     simp only [Act.put,getD_set _ _ _ _ hd',St.upd,St.get,esets,List.cons_append,List.nil_append,List.foldl_cons,List.foldl_nil,eget_eset]
     split
     ·rename_i e;subst e
      exact .own _ _ _ _ hr ht.move
     ·split
      ·rename_i e;subst e;exact .d _ _ _ hr
      ·rename_i e1 e2
       exact (R.slots t).pres R.h.sane hpr (by simp;exact fun e=>e2 e.symm) (fun _ _ _=>rfl) (fun _ _ _=>⟨rfl,by simp⟩)
    ·intro t r' off ht
     simp only [St.upd,St.get,esets,List.cons_append,List.nil_append,List.foldl_cons,List.foldl_nil,eget_eset] at ht ⊢
     split at ht
     ·cases ht
     ·split at ht
      ·cases ht
      ·obtain ⟨cs,hcs⟩:=R.places t r' off ht
       refine ⟨cs,?_⟩
       split
       ·rename_i e;subst e;rw [hcs] at hdb;simp [AV.isBox] at hdb
       ·split
        ·rename_i e;subst e;rw [hcs] at hs;cases hs
        ·exact hcs
  ·simp at h
 ·simp at h
end
section
variable {P:Program} {T:Types} (hT:TOk P T) {σ:St} {g:Nat->AV} {o:Oper} {ss:Sets} {h':Option (List Obj)} {H:List Obj} {an:Ann}
 (hg:Less g σ) (hgd : ∀ d,o.dst=some d->g d=σ.get d) (hH : ∀ (i:Nat) (ob:Obj),H[i]?=some ob->σ.heap[i]?=some ob) (h:evBase Ar.std T an σ.n g H o=some (ss,h'))
theorem cell_block {w:World} {b:Nat} {vs:Array Value} {e:TypeId} (hb:w.heap[b]?=some (.cells vs e (0,0))) (j:Nat):w.cell? ⟨b,j,none⟩=vs[j]?:=by
 simp [World.cell?,hb]
theorem cell_at {w:World} {b:Nat} {vs:Array Value} {e:TypeId} (hb:w.heap[b]?=some (.cells vs e (0,0))) {j:Nat} (hj:j<vs.size):w.cell? ⟨b,j,none⟩=some (vs.getD j Go.undef):=by
 rw [cell_block hb];simp [Array.getD,hj]
theorem box_rep {G:Gh} {a:Act} {w:World} (R:Rel G σ a w) {r:Nat} {cs:List AV} (hr:σ.get r = .lbox cs) :
  ∃ (vs:Array Value) (e:TypeId),G.O (G.β (.s r))=some (.s r,0)/\w.heap[G.β (.s r)]?=some (.cells vs e (0,0))/\vs.size=cs.length /\
    (∀ (j:Nat) (hj:j<cs.length),RepV G w (.sc r j) cs[j] (vs.getD j Go.undef))/\(∀ c∈cs,c.isCell=true)/\a.tmps.getD r Go.undef = .pointer (some ⟨G.β (.s r),0,none⟩):=by
 have:=R.slots r
 rw [hr] at this
 generalize hv:a.tmps.getD r Go.undef=v at this
 cases this with | lbox _ _ vs e hO hw hs hh hc=>exact ⟨vs,e,hO,hw,hs,hh,hc,rfl⟩
def ReadsAs (σ:St) (td:TD) (A:Adr) (av:AV):Prop :=
 match A with
 | .slot _ off cs=>readAt td cs off=some av
 | .obj a off => ∃ ob cs,σ.heap[a]?=some ob/\objCells ob=some cs/\readAt td cs off=some av
 | .cells cs=>readAt td (cs.map .d) 0=some av
include hT in
theorem load_run {t:TypeId} {td:TD} (ht:T t=some td) {A:Adr} {G:Gh} {a:Act} {w:World} (R:Rel G σ a w) {b off:Nat} (hA:AdrRep G σ A (.pointer (some ⟨b,off,none⟩))) {av:AV} (hav:ReadsAs σ td A av) :
  ∃ v,(loadVar t ⟨b,off,none⟩).run P w = .ok v w/\av.free=true /\ ∀ ℓ,RepV G w ℓ av v:=by
 cases A with
 | slot r off' cs =>
   obtain ⟨hr,e⟩:=hA
   simp at e;obtain ⟨rfl,rfl⟩:=e
   obtain ⟨vs,e,hO,hw,hs,hh,hc,_⟩:=box_rep R hr
   have:=loadVar_ok hT ht (G:=G) (w:=w) (b:=G.β (.s r)) (o:=0) (off:=off) (cs:=cs) (vs:=fun j=>vs.getD j Go.undef)
    (fun j hj=>by rw [Nat.zero_add];exact cell_at hw (by omega)) (fun j hj=>⟨_,hh j hj⟩) hc hav
   simpa using this
 | obj i off' =>
   obtain ⟨hi,e⟩:=hA
   simp at e;obtain ⟨rfl,rfl⟩:=e
   obtain ⟨ob,cs,hob,hcs,hav⟩:=hav
   have hobj:=R.h.objs i ob hob
   cases ob with
   | cells cs' =>
     simp [objCells] at hcs;subst hcs
     obtain ⟨vs,e,hO,hw,hs,hh,hc⟩:=hobj
     have:=loadVar_ok hT ht (G:=G) (w:=w) (b:=G.β (.o i)) (o:=0) (off:=off) (cs:=cs') (vs:=fun j=>vs.getD j Go.undef)
      (fun j hj=>by rw [Nat.zero_add];exact cell_at hw (by omega)) (fun j hj=>⟨_,hh j hj⟩) hc hav
     simpa using this
   | arr k l =>
     simp [objCells] at hcs;subst hcs
     obtain ⟨vs,e,hO,hw,hu,hs,h1,hh⟩:=hobj
     have hcell : ∀ c∈(D.flat l).map AV.d,c.isCell=true:=isCell_of_rep h1 hh
     have:=loadVar_ok hT ht (G:=G) (w:=w) (b:=G.β (.o i)) (o:=0) (off:=off) (cs:=(D.flat l).map .d) (vs:=fun j=>vs.getD j Go.undef)
      (fun j hj=>by rw [Nat.zero_add];simp at hj;exact cell_at hw (by omega)) (fun j hj=>⟨.no,by have:=RepV.d (G:=G) (w:=w) .no _ _ (hh j (by simpa using hj));simpa using this⟩) hcell hav
     simpa using this
   | map ag ks es=>simp [objCells] at hcs
   | dead=>simp [objCells] at hcs
   | gro k l=>simp [objCells] at hcs
   | loop L=>simp [objCells] at hcs
 | cells cs =>
   obtain ⟨b',off',vs,e,hK,h1,hh⟩:=hA
   simp at e;obtain ⟨rfl,rfl⟩:=e
   have hcell : ∀ c∈cs.map AV.d,c.isCell=true:=isCell_of_rep h1 hh
   have:=loadVar_ok hT ht (G:=G) (w:=w) (b:=b) (o:=off) (off:=0) (cs:=cs.map .d) (vs:=vs)
    (fun j hj=>R.h.kept _ _ (hK j (by simpa using hj))) (fun j hj=>⟨.no,by have:=RepV.d (G:=G) (w:=w) .no _ _ (hh j (by simpa using hj));simpa using this⟩) hcell hav
   simpa using this
theorem adr_obj {x:Operand} {i off:Nat} (h:adr g x=some (.obj i off)) : ∃ j,x = .tmp j/\g j = .ptr i off:=by
 unfold adr at h
 split at h
 ·rename_i j
  split at h
  ·simp at h
  ·split at h <;> simp at h
  ·rename_i a b hg;simp at h;obtain ⟨rfl,rfl⟩:=h;exact ⟨j,rfl,hg⟩
  ·simp at h
  ·simp at h
  ·simp at h
 ·simp at h
include hT hg hgd hH h
theorem step_load {t:TypeId} {x:Operand} (hop:o.op = .load t x) (hHe:heapy an g o=true->H=σ.heap):StepOk P σ o ss h':=by
 have hnd : ∀ c,o.op ≠ .defer c:=by simp [hop]

 have plain : ∀ (td:TD) (A:Adr) (av:AV),T t=some td->adr g x=some A->Am.put σ.n g o.dst av=some (ss,h') ->
   ReadsAs σ td A av->StepOk P σ o ss h':=by
  intro td A av ht hA hp hav r n m G a w Q next hm R hn
  have hAr:=adr_ok hg R hA
  obtain ⟨b,off,hpt⟩:=hAr.pointer
  rw [hpt] at hAr
  obtain ⟨v,_,hfree,_⟩:=load_run hT ht R hAr hav
  refine stepOk_pure hgd hp hnd (AV.free_place (AV.free_isLocal hfree)) ?_ r n m G a w Q next hm R hn
  intro G a w R
  have hAr:=adr_ok hg R hA
  obtain ⟨b,off,hpt⟩:=hAr.pointer
  rw [hpt] at hAr
  obtain ⟨v,hv,hfree,hrep⟩:=load_run hT ht R hAr hav
  exact ⟨v,by simp [execOp,hop,hpt,Instr.loadAt,Instr.sureAddr,hv],fun d=>hrep _⟩
 simp only [evBase,hop] at h
 split at h
 ·rename_i td r off cs ht hA
  have ordinary:putO σ.n g o.dst (readAt td cs off)=some (ss,h')->StepOk P σ o ss h':=by
   intro h
   obtain ⟨av,hav,hp⟩:=putO_some h
   exact plain td _ av ht hA hp hav
  split at h
  ·rename_i d k l hd hcs
   split at h
   ·rename_i htk
    simp at htk
    simp only [Option.map_eq_some_iff] at h
    obtain ⟨⟨ss1,h1⟩,hp,he⟩:=h
    simp at he
    obtain ⟨rfl,rfl⟩:=he
    obtain ⟨rfl,hcase⟩:=put_some hp
    rcases hcase with ⟨hdn,_⟩ | ⟨d',hd',rfl,hlt,hbox⟩
    ·rw [hd] at hdn;cases hdn
    obtain rfl:d=d':=by rw [hd] at hd';injection hd'
    intro r' n m G a w Q next hm R hn
    have hAr:=adr_ok hg R hA
    obtain ⟨hr,hpt⟩:=hAr
    obtain ⟨vs,e,hO,hw,hs,hh,hc,hat⟩:=box_rep R hr
    obtain ⟨hoff,hcsoff⟩:=zp2.1 hcs
    have hcell:=hh off hoff
    rw [hcsoff] at hcell
    generalize hv:vs.getD off Go.undef=v at hcell
    cases hcell with | own _ _ _ _ hrl htail =>
    have hdb:(σ.get d).isBox=false:=by rw [<-hgd d hd];exact hbox
    have hrd:r≠d:=by rintro rfl;rw [hr] at hdb;simp [AV.isBox] at hdb
    have hrun:(execOp a.eval o).run P w = .ok (.value v) w:=by
     have:w.cell? ⟨G.β (.s r),off,none⟩=some v:=by rw [<-hv];exact cell_at hw (by omega)
     simp [execOp,hop,hpt,Instr.loadAt,Instr.sureAddr,loadVar,hT.isAgg ht,htk.2,this]
    refine wp_value hnd hrun (hn (G.move (.sc r off) (.s d)) _ _ ?_ (Ext.move m G w _ _))
    rw [hd]
    have hd':d<a.tmps.size:=by rw [R.size];exact hlt
    have hpr:=G.move_pres w (.sc r off) (.s d)
    refine ⟨R.h.move _ _ (by simp [Loc.root]) ?_,by simpa [Act.put,St.upd] using R.size,?_,?_,R.df.move (by simp)⟩
    ·intro i ob hob
     exact (R.h.objs i ob hob).pres R.h.sane (by rw [<-R.h.nh];exact (zp2.1 hob).1) hpr (by simp) (by simp)
    ·intro t
     simp only [Act.put,getD_set _ _ _ _ hd',St.upd,St.get,esets,List.cons_append,List.nil_append,List.foldl_cons,List.foldl_nil,eget_eset]
     split
     ·rename_i e;subst e
      exact .own _ _ _ _ hrl htail.move
     ·split
      ·rename_i e;subst e
       rw [hat]
       refine .lbox _ _ vs e ?_ hw (by simpa using hs) (fun j hj => ?_) ?_
       ·simp only [Gh.move,hO];simp
       ·simp at hj
        by_cases hjo:off=j
        ·subst hjo;simp only [List.getElem_set_self];rw [hv];exact .d _ _ _ hrl
        ·rw [List.getElem_set_ne hjo]
         exact (hh j hj).pres R.h.sane hpr (by simp;exact fun e=>hjo e.symm) (fun r' off' e=>absurd e (AV.not_place (AV.isLocal_of_isCell (hc _ (zp6 hj))) r' off')) (fun t e=>by cases e)
       ·intro c hcm
        rcases List.mem_or_eq_of_mem_set hcm with hcm | rfl
        ·exact hc c hcm
        ·rfl
      ·exact (R.slots t).pres R.h.sane hpr (by simp) (fun _ _ _=>rfl) (fun t' e hb=>⟨rfl,by intro j;simp;rintro rfl;rename_i e1 e2;simp at e;exact absurd e.symm e2⟩)
    ·intro t r'' off' ht
     simp only [St.upd,St.get,esets,List.cons_append,List.nil_append,List.foldl_cons,List.foldl_nil,eget_eset] at ht ⊢
     split at ht
     ·cases ht
     ·split at ht
      ·cases ht
      ·obtain ⟨cs',hcs'⟩:=R.places t r'' off' ht
       split
       ·rename_i e;subst e;rw [hcs'] at hdb;simp [AV.isBox] at hdb
       ·split
        ·exact ⟨_,rfl⟩
        ·exact ⟨cs',hcs'⟩
   ·exact ordinary h
  ·exact ordinary h
 ·rename_i td i off ht hA
  cases hHi:H[i]? with
  | none=>simp [hHi] at h
  | some ob =>
    have hob:=hH i ob hHi
    have ordinary:putO σ.n g o.dst ((objCells ob).bind (readAt td · off))=some (ss,h')->StepOk P σ o ss h':=by
     intro h
     obtain ⟨av,hav,hp⟩:=putO_some h
     obtain ⟨cs,hcs,hav⟩:=Option.bind_eq_some_iff.1 hav
     exact plain td _ av ht hA hp ⟨ob,cs,hob,hcs,hav⟩
    simp only [hHi] at h
    split at h
    ·rename_i cs heq
     injection heq with heq
     subst heq
     have ordinary:putO σ.n g o.dst (readAt td cs off)=some (ss,h')->StepOk P σ o ss h':=by
      intro h;exact ordinary (by simpa [objCells] using h)
     split at h
     ·rename_i d k l hd hcs
      split at h
      ·rename_i htk
       simp at htk
       simp only [Option.map_eq_some_iff] at h
       obtain ⟨⟨ss1,h1⟩,hp,he⟩:=h
       simp at he
       obtain ⟨rfl,rfl⟩:=he
       obtain ⟨rfl,hcase⟩:=put_some hp
       rcases hcase with ⟨hdn,_⟩ | ⟨d',hd',rfl,hlt,hbox⟩
       ·rw [hd] at hdn;cases hdn
       obtain rfl:d=d':=by rw [hd] at hd';injection hd'
       have hHσ:H=σ.heap:=by
        obtain ⟨j,rfl,hgj⟩:=adr_obj hA
        exact hHe (by simp [heapy,hop,hgj])
       intro r' n m G a w Q next hm R hn
       have hAr:=adr_ok hg R hA
       obtain ⟨hi,hpt⟩:=hAr
       obtain ⟨vs,e,hO,hw,hs,hh,hc⟩:=R.h.objs i _ hob
       obtain ⟨hoff,hcsoff⟩:=zp2.1 hcs
       have hcell:=hh off hoff
       rw [hcsoff] at hcell
       generalize hv:vs.getD off Go.undef=v at hcell
       cases hcell with | own _ _ _ _ hrl htail =>
       have hdb:(σ.get d).isBox=false:=by rw [<-hgd d hd];exact hbox
       have hrun:(execOp a.eval o).run P w = .ok (.value v) w:=by
        have:w.cell? ⟨G.β (.o i),off,none⟩=some v:=by rw [<-hv];exact cell_at hw (by omega)
        simp [execOp,hop,hpt,Instr.loadAt,Instr.sureAddr,loadVar,hT.isAgg ht,htk.2,this]
       refine wp_value hnd hrun (hn (G.move (.oc i off) (.s d)) _ _ ?_ (Ext.move m G w _ _))
       rw [hd]
       have hd':d<a.tmps.size:=by rw [R.size];exact hlt
       have hpr:=G.move_pres w (.oc i off) (.s d)
       refine ⟨?_,by simpa [Act.put,St.upd] using R.size,?_,?_,R.df.move (by simp)⟩
       ·have hmove:RelH (G.move (.oc i off) (.s d)) (σ.heap.set i (.cells (cs.set off (.d (.list k l))))) w:=by
         have key:=R.h
         refine { sane:=key.sane.move (by simp [Loc.root]),nh:=by rw [List.length_set];exact key.nh,objs := ?_,kept:=key.kept,disj := ?_ }
         ·intro j ob hj
          by_cases hij:i=j
          ·subst hij
           rw [List.getElem?_set_self (by exact (zp2.1 hob).1)] at hj
           injection hj with hj;subst hj
           refine ⟨vs,e,by simp only [Gh.move,hO];simp,hw,by simpa using hs,fun j hj => ?_,?_⟩
           ·simp at hj
            by_cases hjo:off=j
            ·subst hjo;simp only [List.getElem_set_self];rw [hv];exact .d _ _ _ hrl
            ·rw [List.getElem_set_ne hjo]
             exact (hh j hj).pres R.h.sane hpr (by simp;exact fun e=>hjo e.symm) (fun r' off' e=>absurd e (AV.not_place (AV.isLocal_of_isCell (hc _ (zp6 hj))) r' off')) (fun t e=>by cases e)
           ·intro c hcm
            rcases List.mem_or_eq_of_mem_set hcm with hcm | rfl
            ·exact hc c hcm
            ·rfl
          ·rw [List.getElem?_set_ne hij] at hj
           exact (key.objs j ob hj).pres key.sane (by rw [<-key.nh];exact (zp2.1 hj).1) hpr (by simp) (by intro j';simp;rintro rfl;exact absurd rfl hij)
         ·intro b x f hO
          obtain ⟨y,hy,rfl⟩:=move_O hO
          exact key.disj b y f hy
        simpa [St.upd,hHσ] using hmove
       ·intro t
        simp only [Act.put,getD_set _ _ _ _ hd',St.upd,St.get,esets,List.foldl_cons,List.foldl_nil,eget_eset]
        split
        ·rename_i e;subst e
         exact .own _ _ _ _ hrl htail.move
        ·exact (R.slots t).pres R.h.sane hpr (by simp) (fun _ _ _=>rfl) (fun t' e hb=>⟨rfl,by simp⟩)
       ·intro t r'' off' ht
        simp only [St.upd,St.get,esets,List.foldl_cons,List.foldl_nil,eget_eset] at ht ⊢
        split at ht
        ·cases ht
        ·obtain ⟨cs',hcs'⟩:=R.places t r'' off' ht
         split
         ·rename_i e;subst e;rw [hcs'] at hdb;simp [AV.isBox] at hdb
         ·exact ⟨cs',hcs'⟩
      ·exact ordinary h
     ·exact ordinary h
    ·rename_i ob' hnc heq
     injection heq with heq
     subst heq
     exact ordinary h
    ·rename_i heq;cases heq
 ·rename_i td cs ht hA
  obtain ⟨av,hav,hp⟩:=putO_some h
  exact plain td _ av ht hA hp hav
 ·simp at h
end
end Go.Am

namespace Go.Am
open Go
def Gh.own (G:Gh) (b:Nat) (ℓ:Loc) (f:Nat):Gh:={ G with O:=fun x=>if x=b then some (ℓ,f) else G.O x }
def Gh.at (G:Gh) (r:Root) (b:Nat):Gh:={ G with β:=fun x=>if x=r then b else G.β x }
theorem heap_alloc_lt {w:World} {o:Go.Obj} {b:Nat} (hb:b<w.heap.size):(w.alloc o).heap[b]?=w.heap[b]?:=by
 show (w.heap.push o)[b]?=_
 rw [Array.getElem?_push,if_neg (Nat.ne_of_lt hb)]
theorem heap_alloc_new {w:World} {o:Go.Obj}:(w.alloc o).heap[w.heap.size]?=some o:=by
 show (w.heap.push o)[w.heap.size]?=_
 simp
theorem cell_alloc_old {w:World} {o:Go.Obj} {x:Addr} {v:Value} (h:w.cell? x=some v):(w.alloc o).cell? x=some v:=by
 have:=World.block_lt_of_cell? w _ h
 unfold World.cell? at *
 rwa [heap_alloc_lt this]
theorem frozen?_alloc_new (w:World) (o:Go.Obj) (ho : ∀ c t f,o = .cells c t f->f=(0,0)) (a:Addr):(w.alloc o).frozen? a=w.frozen? a:=by
 unfold World.frozen?
 by_cases h:a.block<w.heap.size
 ·rw [heap_alloc_lt h]
 ·rw [show w.heap[a.block]?=none by simp;omega]
  by_cases h2:a.block=w.heap.size
  ·rw [h2,heap_alloc_new]
   cases o with
   | cells c t f=>obtain rfl:=ho _ _ _ rfl;simp
   | _=>rfl
  ·rw [show (w.alloc o).heap[a.block]?=none by simp;omega]
theorem Ext.alloc {m:Nat} {G:Gh} {w:World} {o:Go.Obj} {G':Gh} (hK:KLe G.K G'.K) (hn : ∀ x v,G'.K x=some v->G.K x=some v\/w.heap.size<=x.block)
  (hO : ∀ b,b<w.heap.size->G.O b=none->G'.O b=none) (hβ : ∀ i,i<m->G'.β (.o i)=G.β (.o i)) (hf : ∀ a,(w.alloc o).frozen? a=w.frozen? a):Ext m G w G' (w.alloc o) where
 K:=hK
 new x v h:=(hn x v h).imp id .inr
 others b hb h:=⟨heap_alloc_lt hb,hO b hb h⟩
 size:=by simp
 β:=hβ
 io:=⟨rfl,rfl,fun a _=>hf a,rfl,Nat.le_refl _⟩
section
variable {P:Program} {σ:St} {g:Nat->AV} {o:Oper}
theorem step_newLocal {cs:List AV} {d:Nat} (hdst:o.dst=some d) (hlt:d<σ.n) (hun:σ.get d = .undef) (hnd : ∀ c,o.op ≠ .defer c) (hc : ∀ c∈cs,c.isCell=true)
  (hrun : ∀ G a w,Rel G σ a w -> ∃ (vs:Array Value) (e:TypeId),(execOp a.eval o).run P w = .ok (.value (.pointer (some ⟨w.heap.size,0,none⟩))) (w.alloc (.cells vs e))/\vs.size=cs.length /\
   ∀ (j:Nat) (hj:j<cs.length) (ℓ:Loc),RepV G w ℓ cs[j] (vs.getD j Go.undef)):StepOk P σ o [(d,.lbox cs)] none:=by
 intro r n m G a w Q next hm R hn
 obtain ⟨vs,e,hr,hs,hrep⟩:=hrun G a w R
 have hb:w.heap.size=w.heap.size:=rfl
 let G':=(G.own w.heap.size (.s d) 0).at (.s d) w.heap.size
 have hOold : ∀ b x f,G.O b=some (x,f)->G'.O b=some (x,f):=by
  intro b x f h
  have:=(R.h.disj b x f h).1
  simp [G',Gh.own,Gh.at,Nat.ne_of_lt this,h]
 have hpr:Pres G G' w (w.alloc (.cells vs e)) (fun _=>True):=by
  refine ⟨KLe.refl _,fun b x f _ h=>⟨hOold b x f h,heap_alloc_lt (R.h.disj b x f h).1⟩,fun i _=>by simp [G',Gh.own,Gh.at],Nat.le_refl _⟩
 refine wp_value hnd hr (hn G' _ _ ?_ (Ext.alloc (KLe.refl _) (fun x v h => .inl h) (fun b hb h=>by simp [G',Gh.own,Gh.at,Nat.ne_of_lt hb,h]) (fun i _=>by simp [G',Gh.own,Gh.at]) (frozen?_alloc_new _ _ (fun _ _ _ e=>by cases e;rfl))))
 rw [hdst]
 have hd':d<a.tmps.size:=by rw [R.size];exact hlt
 have hnopl : ∀ t off,σ.get t ≠ .place d off:=by
  intro t off e
  obtain ⟨cs,h⟩:=R.places t d off e
  rw [hun] at h;cases h
 refine ⟨⟨⟨fun b x f h => ?_⟩,R.h.nh,fun i ob hob => ?_,fun x v h=>cell_alloc_old (R.h.kept x v h),fun b x f h => ?_⟩,by simpa [Act.put,St.upd] using R.size,?_,?_,?_⟩
 ·simp only [G',Gh.own,Gh.at] at h
  split at h
  ·simp at h;rw [<-h.1];simp [Loc.root]
  ·exact R.h.sane.no b x f h
 ·exact (R.h.objs i ob hob).pres R.h.sane (by rw [<-R.h.nh];exact (zp2.1 hob).1) hpr trivial (fun _=>trivial)
 ·simp only [G',Gh.own,Gh.at] at h
  split at h
  ·rename_i hbe;subst hbe
   simp at h
   refine ⟨by simp,fun j _ => ?_⟩
   cases hK:G.K ⟨w.heap.size,j,none⟩ with
   | none=>simpa [G',Gh.own,Gh.at] using hK
   | some v=>exact absurd (World.block_lt_of_cell? w _ (R.h.kept _ _ hK)) (by simp)
  ·have:=R.h.disj b x f h
   exact ⟨by simp;omega,this.2⟩
 ·intro t
  simp only [Act.put,getD_set _ _ _ _ hd',St.upd,St.get,esets,List.foldl_cons,List.foldl_nil,eget_eset]
  split
  ·rename_i e';subst e'
   have hβ:G'.β (.s d)=w.heap.size:=by simp [G',Gh.at]
   have:=RepV.lbox (G:=G') (w:=w.alloc (.cells vs e)) d cs vs e (by rw [hβ];simp [G',Gh.own,Gh.at]) (by rw [hβ];exact heap_alloc_new) hs
    (fun j hj=>(hrep j hj (.sc d j)).pres R.h.sane hpr trivial (fun r' off' e=>absurd e (AV.not_place (AV.isLocal_of_isCell (hc _ (zp6 hj))) r' off')) (fun t e=>by cases e)) hc
   rwa [hβ] at this
  ·rename_i hne
   refine (R.slots t).pres R.h.sane hpr trivial (fun r' off e' => ?_) (fun t' e' hbx=>⟨?_,fun _=>trivial⟩)
   ·have:r'≠d:=by rintro rfl;exact hnopl t off e'
    simp [G',Gh.own,Gh.at,this]
   ·simp at e';subst e'
    simp [G',Gh.own,Gh.at,Ne.symm hne]
 ·intro t r'' off' ht
  simp only [St.upd,St.get,esets,List.foldl_cons,List.foldl_nil,eget_eset] at ht ⊢
  split at ht
  ·cases ht
  ·obtain ⟨cs',hcs'⟩:=R.places t r'' off' ht
   split
   ·exact ⟨_,rfl⟩
   ·exact ⟨cs',hcs'⟩
 ·refine ⟨R.df.1,fun x hx => ?_⟩
  obtain ⟨r0,h1,h2,h3⟩:=R.df.2 x hx
  exact ⟨r0,h1,hOold _ _ _ h2,by rw [heap_alloc_lt (R.h.disj _ _ _ h2).1];exact h3⟩
theorem step_newObj {cs:List AV} {d:Nat} (hdst:o.dst=some d) (hlt:d<σ.n) (hun:σ.get d = .undef) (hnd : ∀ c,o.op ≠ .defer c) (hc : ∀ c∈cs,c.isCell=true)
  (hrun : ∀ G a w,Rel G σ a w -> ∃ (vs:Array Value) (e:TypeId),(execOp a.eval o).run P w = .ok (.value (.pointer (some ⟨w.heap.size,0,none⟩))) (w.alloc (.cells vs e))/\vs.size=cs.length /\
   ∀ (j:Nat) (hj:j<cs.length) (ℓ:Loc),RepV G w ℓ cs[j] (vs.getD j Go.undef)):StepOk P σ o [(d,.ptr σ.heap.length 0)] (some (σ.heap++[.cells cs])):=by
 intro r n m G a w Q next hm R hn
 obtain ⟨vs,e,hr,hs,hrep⟩:=hrun G a w R
 let G':Gh:={ (G.own w.heap.size (.o G.nh) 0).at (.o G.nh) w.heap.size with nh:=G.nh+1 }
 have hOold : ∀ b x f,G.O b=some (x,f)->G'.O b=some (x,f):=by
  intro b x f h
  have:=(R.h.disj b x f h).1
  simp [G',Gh.own,Gh.at,Nat.ne_of_lt this,h]
 have hβold : ∀ i,i<G.nh->G'.β (.o i)=G.β (.o i):=by
  intro i hi
  simp [G',Gh.own,Gh.at,Nat.ne_of_lt hi]
 have hpr:Pres G G' w (w.alloc (.cells vs e)) (fun _=>True) :=
  ⟨KLe.refl _,fun b x f _ h=>⟨hOold b x f h,heap_alloc_lt (R.h.disj b x f h).1⟩,hβold,Nat.le_succ _⟩
 refine wp_value hnd hr (hn G' _ _ ?_ (Ext.alloc (KLe.refl _) (fun x v h => .inl h) (fun b hb h=>by simp [G',Gh.own,Gh.at,Nat.ne_of_lt hb,h]) (fun i hi=>hβold i (by omega)) (frozen?_alloc_new _ _ (fun _ _ _ e=>by cases e;rfl))))
 rw [hdst]
 have hd':d<a.tmps.size:=by rw [R.size];exact hlt
 have hnopl : ∀ t off,σ.get t ≠ .place d off:=by
  intro t off e
  obtain ⟨cs,h⟩:=R.places t d off e
  rw [hun] at h;cases h
 have hβn:G'.β (.o G.nh)=w.heap.size:=by simp [G',Gh.at]
 refine ⟨⟨⟨fun b x f h => ?_⟩,?_,fun i ob hob => ?_,fun x v h=>cell_alloc_old (R.h.kept x v h),fun b x f h => ?_⟩,by simpa [Act.put,St.upd] using R.size,?_,?_,?_⟩
 ·simp only [G',Gh.own,Gh.at] at h
  split at h
  ·simp at h;rw [<-h.1];simp [Loc.root]
  ·exact R.h.sane.no b x f h
 ·simp [St.upd,G',R.h.nh]
 ·simp only [St.upd,Option.getD_some] at hob
  rcases Nat.lt_or_ge i σ.heap.length with hi | hi
  ·rw [zp7 hi] at hob
   exact (R.h.objs i ob hob).pres R.h.sane (by rw [<-R.h.nh];exact hi) hpr trivial (fun _=>trivial)
  ·have hi':i=σ.heap.length:=by
    have:=(zp2.1 hob).1
    simp at this;omega
   subst hi'
   simp at hob
   subst hob
   rw [R.h.nh]
   exact ⟨vs,e,by rw [hβn];simp [G',Gh.own,Gh.at],by rw [hβn];exact heap_alloc_new,hs,
    fun j hj=>(hrep j hj _).pres R.h.sane hpr trivial (fun r' off' e=>absurd e (AV.not_place (AV.isLocal_of_isCell (hc _ (zp6 hj))) r' off')) (fun t e=>by cases e),hc⟩
 ·simp only [G',Gh.own,Gh.at] at h
  split at h
  ·rename_i hbe;subst hbe
   simp at h
   refine ⟨by simp,fun j _ => ?_⟩
   cases hK:G.K ⟨w.heap.size,j,none⟩ with
   | none=>simpa [G',Gh.own,Gh.at] using hK
   | some v=>exact absurd (World.block_lt_of_cell? w _ (R.h.kept _ _ hK)) (by simp)
  ·have:=R.h.disj b x f h
   exact ⟨by simp;omega,this.2⟩
 ·intro t
  simp only [Act.put,getD_set _ _ _ _ hd',St.upd,St.get,esets,List.foldl_cons,List.foldl_nil,eget_eset]
  split
  ·rename_i e';subst e'
   have:=RepV.ptr (G:=G') (w:=w.alloc (.cells vs e)) (.s d) G.nh 0 (by simp [G'])
   rw [hβn] at this
   rw [R.h.nh];exact this
  ·refine (R.slots t).pres R.h.sane hpr trivial (fun r' off e'=>by simp [G',Gh.own,Gh.at]) (fun t' e' hbx=>⟨by simp [G',Gh.own,Gh.at],fun _=>trivial⟩)
 ·intro t r'' off' ht
  simp only [St.upd,St.get,esets,List.foldl_cons,List.foldl_nil,eget_eset] at ht ⊢
  split at ht
  ·cases ht
  ·obtain ⟨cs',hcs'⟩:=R.places t r'' off' ht
   split
   ·rename_i e;subst e;exact absurd ht (hnopl t off')
   ·exact ⟨cs',hcs'⟩
 ·refine ⟨R.df.1,fun x hx => ?_⟩
  obtain ⟨r0,h1,h2,h3⟩:=R.df.2 x hx
  exact ⟨r0,h1,hOold _ _ _ h2,by rw [heap_alloc_lt (R.h.disj _ _ _ h2).1];exact h3⟩
end
theorem AV.undef_of {c:AV} (h:c.isUndef=true):c = .undef:=by cases c <;> first | rfl | (simp [AV.isUndef] at h)
theorem cells_anywhere {G:Gh} {w:World} {c:AV} {v:Value} (h : ∀ ℓ,RepV G w ℓ c v) (hl:c.isLocal=false) (hc : ∀ x∈c.cells,x.isCell=true) :
  v.cells.size=c.cells.length /\ ∀ (i:Nat) (hi:i<c.cells.length) (ℓ:Loc),RepV G w ℓ c.cells[i] (v.cells.getD i Go.undef):=by
 by_cases hf:c.free=true
 ·refine (h .no).cells hf ?_ ?_
  ·rintro rfl;simp [AV.cells,AV.isCell] at hc
  ·rintro l rfl;simp [AV.cells,AV.isCell] at hc
 ·cases c <;> first | (simp [AV.free] at hf;done) | (simp [AV.isLocal] at hl;done) | skip
  all_goals
  rename_i k l
  have hv:v.cells = #[v]:=by
   have:=h .no
   cases this
   rename_i hr
   first
    | (cases hr <;> rfl;done)
    | (obtain ⟨p,cap,rfl,_⟩:=hr;rfl)
  refine ⟨by rw [hv];rfl,fun i hi ℓ => ?_⟩
  have:i=0:=by simpa [AV.cells] using hi
  subst this
  simpa [AV.cells,hv] using h ℓ
section
variable {P:Program} {T:Types} (hT:TOk P T) {σ:St} {g:Nat->AV} {o:Oper} {ss:Sets} {h':Option (List Obj)} {H:List Obj} {an:Ann}
 (hg:Less g σ) (hgd : ∀ d,o.dst=some d->g d=σ.get d) (hHe:heapy an g o=true->H=σ.heap) (h:evBase Ar.std T an σ.n g H o=some (ss,h'))
include hT hg hgd hHe h
theorem step_alloc {t:TypeId} (hop:o.op = .alloc t):StepOk P σ o ss h':=by
 simp only [evBase,hop] at h
 split at h
 ·rename_i td d ht hd
  split at h
  ·rename_i hc
   simp at hc
   have hun:σ.get d = .undef:=by rw [<-hgd d hd];exact AV.undef_of hc.2
   obtain ⟨i,dd,hi,hdd,hsz,_,huok,z,hz,hzs,hzl,hzc⟩:=hT.info ht
   have hcell : ∀ c∈td.zero,c.isCell=true:=by
    intro c hcm
    obtain ⟨j,hj,rfl⟩:=List.mem_iff_getElem.1 hcm
    exact (zeroCell_ok (hzc j hj)).2.1
   have hrun : ∀ G a w,Rel G σ a w -> ∃ (vs:Array Value) (e:TypeId),(execOp a.eval o).run P w = .ok (.value (.pointer (some ⟨w.heap.size,0,none⟩))) (w.alloc (.cells vs e))/\vs.size=td.zero.length /\
     ∀ (j:Nat) (hj:j<td.zero.length) (ℓ:Loc),RepV G w ℓ td.zero[j] (vs.getD j Go.undef):=by
    intro G a w R
    refine ⟨z.cells,t,?_,by omega,fun j hj ℓ=>(zeroCell_ok (hzc j hj)).1 G w ℓ⟩
    simp [execOp,hop,Instr.alloc,zeroValue,typeInfo,hi,hz,newVar,newRow]
   split at h
   ·rename_i hesc
    have hHσ:H=σ.heap:=hHe (by simp [heapy,hop,hd];left;simpa using hesc)
    simp at h
    obtain ⟨rfl,rfl⟩:=h
    rw [hHσ]
    exact step_newObj hd hc.1 hun (by simp [hop]) hcell hrun
   ·simp at h
    obtain ⟨rfl,rfl⟩:=h
    exact step_newLocal hd hc.1 hun (by simp [hop]) hcell hrun
  ·simp at h
 ·simp at h
theorem step_box {t:TypeId} {x:Operand} (hop:o.op = .box t x):StepOk P σ o ss h':=by
 simp only [evBase,hop] at h
 split at h
 ·rename_i td v d ht hv hd
  split at h
  ·rename_i hc
   simp at hc
   obtain ⟨⟨⟨hlt,hu⟩,hlen⟩,hcell⟩:=hc
   have hun:σ.get d = .undef:=by rw [<-hgd d hd];exact AV.undef_of hu
   have hrun : ∀ G a w,Rel G σ a w -> ∃ (vs:Array Value) (e:TypeId),(execOp a.eval o).run P w = .ok (.value (.pointer (some ⟨w.heap.size,0,none⟩))) (w.alloc (.cells vs e))/\vs.size=(v.cells.map AV.unlim).length /\
     ∀ (j:Nat) (hj:j<(v.cells.map AV.unlim).length) (ℓ:Loc),RepV G w ℓ (v.cells.map AV.unlim)[j] (vs.getD j Go.undef):=by
    intro G a w R
    have hv':=fun ℓ=>opv_ok hg R hv ℓ
    obtain ⟨h1,h2⟩:=cells_anywhere (fun ℓ=>(hv' ℓ).1) (hv' .no).2 hcell
    exact ⟨(a.eval x).cells,t,by simp [execOp,hop,Instr.box,newVar,newRow],by rw [unlim_len];exact h1,fun j hj ℓ=>by rw [List.getElem_map];exact (h2 j (by simpa using hj) ℓ).unlim⟩
   split at h
   ·rename_i hesc
    have hHσ:H=σ.heap:=hHe (by simp [heapy,hop,hd];left;simpa using hesc)
    simp at h
    obtain ⟨rfl,rfl⟩:=h
    rw [hHσ]
    exact step_newObj hd hlt hun (by simp [hop]) (unlim_isCell hcell) hrun
   ·simp at h
    obtain ⟨rfl,rfl⟩:=h
    exact step_newLocal hd hlt hun (by simp [hop]) (unlim_isCell hcell) hrun
  ·simp at h
 ·simp at h
end
end Go.Am

namespace Go.Am
open Go
theorem write_get {α:Type} (l nv:List α) (off j:Nat) (h:off+nv.length<=l.length) :
  (l.take off++nv++l.drop (off+nv.length))[j]?=if j<off then l[j]? else if j<off+nv.length then nv[j-off]? else l[j]?:=by
 have h1:(l.take off).length=off:=by simp;omega
 by_cases hj:j<off
 ·rw [if_pos hj,List.append_assoc,zp7 (by omega),List.getElem?_take_of_lt hj]
 ·rw [if_neg hj]
  by_cases hj2:j<off+nv.length
  ·rw [if_pos hj2,List.append_assoc,zp8 (by omega),h1,zp7 (by omega)]
  ·rw [if_neg hj2,zp8 (by simp;omega),List.getElem?_drop]
   congr 1
   simp;omega
theorem write_length {α:Type} (l nv:List α) (off:Nat) (h:off+nv.length<=l.length):(l.take off++nv++l.drop (off+nv.length)).length=l.length:=by
 simp;omega
def rowOf (cur:Array Value) (off:Nat) (vs:List Value):Array Value:=(cur.toList.take off++vs++cur.toList.drop (off+vs.length)).toArray
theorem rowOf_size {cur:Array Value} {off:Nat} {vs:List Value} (h:off+vs.length<=cur.size):(rowOf cur off vs).size=cur.size:=by
 simp [rowOf];omega
theorem rowOf_get {cur:Array Value} {off:Nat} {vs:List Value} (h:off+vs.length<=cur.size) (j:Nat) :
  (rowOf cur off vs).getD j Go.undef=if j<off then cur.getD j Go.undef else if j<off+vs.length then vs.getD (j-off) Go.undef else cur.getD j Go.undef:=by
 have:=write_get cur.toList vs off j (by simpa using h)
 simp only [rowOf,zp5,List.getElem?_toArray,this]
 split
 ·simp
 ·split
  ·simp [List.getD]
  ·simp
theorem written {G':Gh} {w':World} {cs nv:List AV} {cur:Array Value} {vs:List Value} {off:Nat} {L:Nat->Loc} (hs:cur.size=cs.length) (hoff:off+nv.length<=cs.length) (hlen:vs.length=nv.length)
  (hold : ∀ (j:Nat) (hj:j<cs.length),RepV G' w' (L j) cs[j] (cur.getD j Go.undef)) (hnew : ∀ (j:Nat) (hj:j<nv.length),RepV G' w' (L (off+j)) nv[j] (vs.getD j Go.undef))
  (hc : ∀ c∈cs,c.isCell=true) (hcn : ∀ c∈nv,c.isCell=true) :
  (rowOf cur off vs).size=(writeAt cs off nv).length/\(∀ (j:Nat) (hj:j<(writeAt cs off nv).length),RepV G' w' (L j) (writeAt cs off nv)[j] ((rowOf cur off vs).getD j Go.undef)) /\ ∀ c∈writeAt cs off nv,c.isCell=true:=by
 have hl:(writeAt cs off nv).length=cs.length:=write_length _ _ _ hoff
 refine ⟨by rw [rowOf_size (by omega),hl,hs],fun j hj => ?_,?_⟩
 ·rw [rowOf_get (by omega)]
  have e:=write_get cs nv off j hoff
  have hj':j<cs.length:=by omega
  have e2:(writeAt cs off nv)[j]?=some (writeAt cs off nv)[j]:=zp1 hj
  rw [show (writeAt cs off nv)[j]?=_ from e] at e2
  split
  ·rename_i h1
   rw [if_pos h1,zp1 hj'] at e2
   injection e2 with e2
   rw [<-e2];exact hold j hj'
  ·rename_i h1
   rw [if_neg h1] at e2
   split
   ·rename_i h2
    rw [if_pos (by omega),zp1 (by omega)] at e2
    injection e2 with e2
    rw [<-e2]
    have:=hnew (j-off) (by omega)
    rwa [show off+(j-off)=j by omega] at this
   ·rename_i h2
    rw [if_neg (by omega),zp1 hj'] at e2
    injection e2 with e2
    rw [<-e2];exact hold j hj'
 ·intro c hcm
  unfold writeAt at hcm
  rcases List.mem_append.1 hcm with hcm | hcm
  ·rcases List.mem_append.1 hcm with hcm | hcm
   ·exact hc c (List.mem_of_mem_take hcm)
   ·exact hcn c hcm
  ·exact hc c (List.mem_of_mem_drop hcm)
theorem setRow_pres {G:Gh} {w:World} {b:Nat} {ℓ:Loc} (hO:G.O b=some (ℓ,0)) (row:Array Value):Pres G G w (w.setRow b row) (fun x=>x≠ℓ) :=
 ⟨KLe.refl _,fun b' x f hx h=>⟨h,setRow_other _ _ _ _ (by rintro rfl;rw [hO] at h;simp at h;exact hx h.1.symm)⟩,fun _ _=>rfl,Nat.le_refl _⟩
theorem frozen?_setRow' (w:World) (b:Nat) (row:Array Value) (a:Addr):(w.setRow b row).frozen? a=w.frozen? a:=by
 unfold World.frozen?
 by_cases h:a.block=b
 ·subst h
  cases hw:w.heap[a.block]? with
  | none=>simp [World.setRow,Array.getElem?_modify,hw]
  | some o=>cases o <;> simp [World.setRow,Array.getElem?_modify,hw]
 ·rw [setRow_other _ _ _ _ h]
theorem Ext.setRow {m:Nat} {G:Gh} {w:World} {b:Nat} {p:Loc×Nat} (hO:G.O b=some p) (row:Array Value):Ext m G w G (w.setRow b row) where
 K:=KLe.refl _
 new x v h := .inl h
 others b' _ h:=⟨setRow_other _ _ _ _ (by rintro rfl;rw [hO] at h;cases h),h⟩
 size:=by simp
 β _ _:=rfl
 io:=⟨rfl,rfl,fun a _=>frozen?_setRow' _ _ _ a,rfl,Nat.le_refl _⟩
theorem kept_setRow {G:Gh} {w:World} {b:Nat} {ℓ:Loc} (hk : ∀ x v,G.K x=some v->w.cell? x=some v) (hd : ∀ j,G.K ⟨b,j,none⟩=none) (hO:G.O b=some (ℓ,0)) (row:Array Value) :
  ∀ x v,G.K x=some v->(w.setRow b row).cell? x=some v:=by
 intro x v h
 have hx:=hk x v h
 have hne:x.block≠b:=by
  rintro rfl
  have hspot:x.spot=none:=by
   unfold World.cell? at hx
   split at hx
   ·split at hx
    ·cases hx
    ·rename_i hsp;simpa using hsp
   ·cases hx
  obtain ⟨b,j,s⟩:=x
  simp at hspot;subst hspot
  rw [hd j] at h;cases h
 rw [cell_setRow_other _ _ _ _ hne];exact hx
theorem storeSlot_core {G:Gh} {σ:St} {a:Act} {w:World} (R:Rel G σ a w) {r off:Nat} {cs nv:List AV} {cur:Array Value} {vs:List Value} {e:TypeId} (hr:σ.get r = .lbox cs)
  (hw:w.heap[G.β (.s r)]?=some (.cells cur e (0,0))) (hoff:off+nv.length<=cs.length) (hlen:vs.length=nv.length)
  (hnew : ∀ (j:Nat) (hj:j<nv.length),RepV G w (.sc r (off+j)) nv[j] (vs.getD j Go.undef)) (hcn : ∀ c∈nv,c.isCell=true) :
  Rel G (σ.upd [(r,.lbox (writeAt cs off nv))] none) a (w.setRow (G.β (.s r)) (rowOf cur off vs)):=by
 obtain ⟨vs0,e0,hO,hw0,hs,hh,hc,hat⟩:=box_rep R hr
 rw [hw] at hw0
 injection hw0 with hw0;injection hw0 with h1 h2 h3;subst h1 h2
 have hpr:=setRow_pres (w:=w) hO (rowOf cur off vs)
 have hnp : ∀ {c:AV},c.isCell=true -> ∀ r' off',c = .place r' off'->G.β (.s r')=G.β (.s r'):=fun _ _ _ _=>rfl
 obtain ⟨k1,k2,k3⟩:=written (L:=fun j => .sc r j) hs hoff hlen
  (fun j hj=>(hh j hj).pres R.h.sane hpr (by simp) (fun _ _ _=>rfl) (fun t e=>by cases e))
  (fun j hj=>(hnew j hj).pres R.h.sane hpr (by simp) (fun _ _ _=>rfl) (fun t e=>by cases e)) hc hcn
 refine ⟨⟨R.h.sane,R.h.nh,fun i ob hob => ?_,kept_setRow R.h.kept (fun j=>(R.h.disj _ _ _ hO).2 j (Nat.zero_le _)) hO _,fun b ℓ f h => ?_⟩,by simpa [St.upd] using R.size,?_,?_,?_⟩
 ·exact (R.h.objs i ob hob).pres R.h.sane (by rw [<-R.h.nh];exact (zp2.1 hob).1) hpr (by simp) (by simp)
 ·have:=R.h.disj b ℓ f h;exact ⟨by simpa using this.1,this.2⟩
 ·intro t
  simp only [St.upd,St.get,esets,List.foldl_cons,List.foldl_nil,eget_eset]
  split
  ·rename_i e';subst e'
   rw [hat]
   exact .lbox r _ _ e hO (setRow_heap _ _ _ _ _ _ hw) k1 k2 k3
  ·rename_i hne
   exact (R.slots t).pres R.h.sane hpr (by simp;exact fun e=>hne e.symm) (fun _ _ _=>rfl) (fun t' e' _=>⟨rfl,fun j=>by simp⟩)
 ·intro t r'' off' ht
  simp only [St.upd,St.get,esets,List.foldl_cons,List.foldl_nil,eget_eset] at ht ⊢
  split at ht
  ·cases ht
  ·obtain ⟨cs',hcs'⟩:=R.places t r'' off' ht
   split
   ·exact ⟨_,rfl⟩
   ·exact ⟨cs',hcs'⟩
 ·refine ⟨R.df.1,fun x hx => ?_⟩
  obtain ⟨r0,h1,h2,h3⟩:=R.df.2 x hx
  exact ⟨r0,h1,h2,by rw [setRow_other _ _ _ _ (by rintro rfl;rw [hO] at h2;cases h2)];exact h3⟩
theorem storeObj_core {G:Gh} {σ:St} {a:Act} {w:World} (R:Rel G σ a w) {i off:Nat} {cs nv:List AV} {cur:Array Value} {vs:List Value} {e:TypeId} (hi:σ.heap[i]?=some (.cells cs))
  (hw:w.heap[G.β (.o i)]?=some (.cells cur e (0,0))) (hoff:off+nv.length<=cs.length) (hlen:vs.length=nv.length)
  (hnew : ∀ (j:Nat) (hj:j<nv.length),RepV G w (.oc i (off+j)) nv[j] (vs.getD j Go.undef)) (hcn : ∀ c∈nv,c.isCell=true) :
  Rel G (σ.upd [] (some (σ.heap.set i (.cells (writeAt cs off nv))))) a (w.setRow (G.β (.o i)) (rowOf cur off vs)):=by
 obtain ⟨vs0,e0,hO,hw0,hs,hh,hc⟩:=R.h.objs i _ hi
 rw [hw] at hw0
 injection hw0 with hw0;injection hw0 with h1 h2 h3;subst h1 h2
 have hpr:=setRow_pres (w:=w) hO (rowOf cur off vs)
 obtain ⟨k1,k2,k3⟩:=written (L:=fun j => .oc i j) hs hoff hlen
  (fun j hj=>(hh j hj).pres R.h.sane hpr (by simp) (fun _ _ _=>rfl) (fun t e=>by cases e))
  (fun j hj=>(hnew j hj).pres R.h.sane hpr (by simp) (fun _ _ _=>rfl) (fun t e=>by cases e)) hc hcn
 have hil:i<σ.heap.length:=(zp2.1 hi).1
 refine ⟨⟨R.h.sane,by simpa [St.upd] using R.h.nh,fun i' ob hob => ?_,kept_setRow R.h.kept (fun j=>(R.h.disj _ _ _ hO).2 j (Nat.zero_le _)) hO _,fun b ℓ f h => ?_⟩,by simpa [St.upd] using R.size,?_,?_,?_⟩
 ·simp only [St.upd,Option.getD_some] at hob
  by_cases hii:i=i'
  ·subst hii
   rw [List.getElem?_set_self hil] at hob
   injection hob with hob;subst hob
   exact ⟨_,e,hO,setRow_heap _ _ _ _ _ _ hw,k1,k2,k3⟩
  ·rw [List.getElem?_set_ne hii] at hob
   exact (R.h.objs i' ob hob).pres R.h.sane (by rw [<-R.h.nh];exact (zp2.1 hob).1) hpr (by simp;exact fun e=>hii e.symm) (by simp)
 ·have:=R.h.disj b ℓ f h;exact ⟨by simpa using this.1,this.2⟩
 ·intro t
  exact (R.slots t).pres R.h.sane hpr (by simp) (fun _ _ _=>rfl) (fun t' e' _=>⟨rfl,fun j=>by simp⟩)
 ·intro t r'' off' ht
  exact R.places t r'' off' ht
 ·refine ⟨R.df.1,fun x hx => ?_⟩
  obtain ⟨r0,h1,h2,h3⟩:=R.df.2 x hx
  exact ⟨r0,h1,h2,by rw [setRow_other _ _ _ _ (by rintro rfl;rw [hO] at h2;cases h2)];exact h3⟩
theorem Rel.give {G:Gh} {σ:St} {a:Act} {w:World} (R:Rel G σ a w) {s k:Nat} {l:List D} (hs:σ.get s = .own k l) (ℓ':Loc) (h0:ℓ'.root ≠ .no) :
  Rel (G.move (.s s) ℓ') (σ.upd [(s,.d (.list k l))] none) a w/\RepV (G.move (.s s) ℓ') w ℓ' (.own k l) (a.tmps.getD s Go.undef):=by
 have hrep:=R.slots s
 rw [hs] at hrep
 generalize hv:a.tmps.getD s Go.undef=v at hrep
 cases hrep with | own _ _ _ _ hr ht =>
 have hpr:=G.move_pres w (.s s) ℓ'
 refine ⟨⟨R.h.move _ _ h0 ?_,by simpa [St.upd] using R.size,?_,?_,R.df.move (by simp)⟩,.own _ _ _ _ hr ht.move⟩
 ·intro i ob hob
  exact (R.h.objs i ob hob).pres R.h.sane (by rw [<-R.h.nh];exact (zp2.1 hob).1) hpr (by simp) (by simp)
 ·intro t
  simp only [St.upd,St.get,esets,List.foldl_cons,List.foldl_nil,eget_eset]
  split
  ·rename_i e;subst e;rw [hv];exact .d _ _ _ hr
  ·rename_i e2
   exact (R.slots t).pres R.h.sane hpr (by simp;exact fun e=>e2 e.symm) (fun _ _ _=>rfl) (fun _ _ _=>⟨rfl,by simp⟩)
 ·intro t r' off ht
  simp only [St.upd,St.get,esets,List.foldl_cons,List.foldl_nil,eget_eset] at ht ⊢
  split at ht
  ·cases ht
  ·obtain ⟨cs,hcs⟩:=R.places t r' off ht
   refine ⟨cs,?_⟩
   split
   ·rename_i e;subst e;rw [hcs] at hs;cases hs
   ·exact hcs
theorem upd_upd (σ:St) (s t:Sets):(σ.upd s none).upd t none=σ.upd (s++t) none:=by simp [St.upd,esets]
theorem upd_upd' (σ:St) (s t:Sets) (h:List Obj):(σ.upd s none).upd t (some h)=σ.upd (s++t) (some h):=by simp [St.upd,esets]
section
variable {P:Program} {T:Types} (hT:TOk P T) {σ:St} {g:Nat->AV} {o:Oper} {ss:Sets} {h':Option (List Obj)} {H:List Obj} {an:Ann}
 (hg:Less g σ) (hHe:heapy an g o=true->H=σ.heap) (h:evBase Ar.std T an σ.n g H o=some (ss,h'))
include hT hg hHe h
omit hg hHe h in
theorem storeVar_run {t:TypeId} {td:TD} (ht:T t=some td) {w:World} {b off:Nat} {cur:Array Value} {e:TypeId} {v:Value} (hw:w.heap[b]?=some (.cells cur e (0,0))) (hs:v.cells.size=td.size)
  (hoff:off+td.size<=cur.size) (h1 : ∀ x∈v.cells.toList,x.oneCell'=true):(storeVar t ⟨b,off,none⟩ v).run P w = .ok () (w.setRow b (rowOf cur off v.cells.toList)):=by
 have:=run_storeCells_at P b off e v.cells.toList 0 cur w hw (by simp;omega) h1
 simp only [Nat.add_zero] at this
 simp [storeVar,hT.size ht,hs,this,rowOf]
theorem step_store {t:TypeId} {x y:Operand} (hop:o.op = .store t x y):StepOk P σ o ss h':=by
 have hnd : ∀ c,o.op ≠ .defer c:=by simp [hop]
 simp only [evBase,hop] at h
 split at h
 ·rename_i td r off cs v ss0 ht hA hv
  split at h
  ·rename_i hc
   obtain ⟨hlen,hoff,hcell,hdst⟩:=hc
   simp at h
   obtain ⟨rfl,rfl⟩:=h
   simp at hcell
   intro r' n m G a w Q next hm R hn
   obtain ⟨hr,hpt⟩:=adr_ok hg R hA
   rcases taken_some hv with ⟨rfl,hl,hrep⟩ | ⟨s,k,l,rfl,hgs,rfl,rfl⟩
   ·obtain ⟨e1,e2⟩:=cells_anywhere (fun ℓ=>hrep hg R ℓ) hl hcell
    obtain ⟨cur,e,hO,hw,hs,hh,hcc,hat⟩:=box_rep R hr
    have hcore:=storeSlot_core R (off:=off) (nv:=v.cells.map AV.unlim) (vs:=(a.eval y).cells.toList) hr hw (by rw [unlim_len];omega) (by rw [unlim_len];simpa using e1)
     (fun j hj=>by rw [List.getElem_map];have:=(e2 j (by simpa using hj) (.sc r (off+j))).unlim;simpa [List.getD,zp5] using this) (unlim_isCell hcell)
    have hone : ∀ x∈(a.eval y).cells.toList,x.oneCell'=true:=by
     intro x hx
     obtain ⟨j,hj,rfl⟩:=List.mem_iff_getElem.1 hx
     have hj1:j<(a.eval y).cells.size:=by simpa using hj
     have:=(e2 j (by omega) .no).oneCell (hcell _ (zp6 _))
     simpa [Array.getD,hj1] using this
    have hrun:=storeVar_run hT ht hw (off:=off) (v:=a.eval y) (by omega) (by omega) hone
    refine wp_skip' hnd (w':=w.setRow (G.β (.s r)) (rowOf cur off (a.eval y).cells.toList)) (by simp [execOp,hop,hpt,Instr.storeAt,Instr.sureAddr,hrun]) (hn G _ _ ?_ (Ext.setRow hO _))
    rw [hdst]
    simpa [Act.put] using hcore
   ·have hsg:=hg.eq hgs (by simp)
    have hrs:r≠s:=by rintro rfl;rw [hr] at hsg;cases hsg
    obtain ⟨R1,hrep1⟩:=R.give hsg (.sc r off) (by simp [Loc.root])
    have hr1:(σ.upd [(s,.d (.list k l))] none).get r = .lbox cs:=by
     simp only [St.upd,St.get,esets,List.foldl_cons,List.foldl_nil,eget_eset,if_neg (Ne.symm hrs)];exact hr
    obtain ⟨cur,e,hO,hw,hs,hh,hcc,hat⟩:=box_rep R1 hr1
    have hval:a.eval (.tmp s)=a.tmps.getD s Go.undef:=rfl
    generalize hvv:a.tmps.getD s Go.undef=vv at hrep1
    have hcells:vv.cells = #[vv]:=by cases hrep1 with | own _ _ _ _ hr _=>cases hr <;> rfl
    have hsz:td.size=1:=by rw [<-hlen];rfl
    have hcore:=storeSlot_core R1 (off:=off) (nv:=[.own k l]) (vs:=[vv]) hr1 hw (by simp;omega) rfl
     (fun j hj=>by simp at hj;subst hj;simpa using hrep1) (by simp [AV.isCell])
    have hone : ∀ x∈vv.cells.toList,x.oneCell'=true:=by
     rw [hcells];simp;exact hrep1.oneCell rfl
    have hrun:=storeVar_run hT ht hw (off:=off) (v:=vv) (by rw [hcells];simp [hsz]) (by omega) hone
    have hβ:(G.move (.s s) (.sc r off)).β=G.β:=rfl
    rw [hβ] at hrun hcore hO
    refine wp_skip' hnd (w':=w.setRow (G.β (.s r)) (rowOf cur off vv.cells.toList)) (by simp [execOp,hop,hpt,Instr.storeAt,Instr.sureAddr,hval,hvv,hrun]) (hn _ _ _ ?_ ((Ext.move m G w _ _).trans (Ext.setRow hO _)))
    rw [hdst,hcells]
    rw [upd_upd] at hcore
    simpa [Act.put,AV.cells,AV.unlim] using hcore
  ·simp at h
 ·rename_i td i off v ss0 ht hA hv
  cases hHi:H[i]? with
  | none=>simp [hHi] at h
  | some ob =>
    simp only [hHi] at h
    split at h
    ·rename_i hc
     obtain ⟨hlen,hcell,hdst⟩:=hc
     simp at hcell
     have hHσ:H=σ.heap:=by
      obtain ⟨j,rfl,hgj⟩:=adr_obj hA
      exact hHe (by simp [heapy,hop,hgj])
     subst hHσ
     simp only [Option.map_eq_some_iff] at h
     obtain ⟨ob',hob',he⟩:=h
     simp at he
     obtain ⟨rfl,rfl⟩:=he
     cases ob with
     | cells cs =>
       simp only [writeObj] at hob'
       split at hob'
       ·rename_i hoff
        simp at hob';subst hob'
        intro r' n m G a w Q next hm R hn
        obtain ⟨hi,hpt⟩:=adr_ok hg R hA
        rcases taken_some hv with ⟨rfl,hl,hrep⟩ | ⟨s,k,l,rfl,hgs,rfl,rfl⟩
        ·obtain ⟨e1,e2⟩:=cells_anywhere (fun ℓ=>hrep hg R ℓ) hl hcell
         obtain ⟨cur,e,hO,hw,hs,hh,hcc⟩:=R.h.objs i _ hHi
         rw [unlim_len] at hoff
         have hcore:=storeObj_core R (off:=off) (nv:=v.cells.map AV.unlim) (vs:=(a.eval y).cells.toList) hHi hw (by rw [unlim_len];omega) (by rw [unlim_len];simpa using e1)
          (fun j hj=>by rw [List.getElem_map];have:=(e2 j (by simpa using hj) (.oc i (off+j))).unlim;simpa [List.getD,zp5] using this) (unlim_isCell hcell)
         have hone : ∀ x∈(a.eval y).cells.toList,x.oneCell'=true:=by
          intro x hx
          obtain ⟨j,hj,rfl⟩:=List.mem_iff_getElem.1 hx
          have hj1:j<(a.eval y).cells.size:=by simpa using hj
          have:=(e2 j (by omega) .no).oneCell (hcell _ (zp6 _))
          simpa [Array.getD,hj1] using this
         have hrun:=storeVar_run hT ht hw (off:=off) (v:=a.eval y) (by omega) (by omega) hone
         refine wp_skip' hnd (w':=w.setRow (G.β (.o i)) (rowOf cur off (a.eval y).cells.toList)) (by simp [execOp,hop,hpt,Instr.storeAt,Instr.sureAddr,hrun]) (hn G _ _ ?_ (Ext.setRow hO _))
         rw [hdst]
         simpa [Act.put] using hcore
        ·have hsg:=hg.eq hgs (by simp)
         obtain ⟨R1,hrep1⟩:=R.give hsg (.oc i off) (by simp [Loc.root])
         obtain ⟨cur,e,hO,hw,hs,hh,hcc⟩:=R1.h.objs i _ hHi
         have hval:a.eval (.tmp s)=a.tmps.getD s Go.undef:=rfl
         generalize hvv:a.tmps.getD s Go.undef=vv at hrep1
         have hcells:vv.cells = #[vv]:=by cases hrep1 with | own _ _ _ _ hr _=>cases hr <;> rfl
         have hsz:td.size=1:=by rw [<-hlen];rfl
         have hcore:=storeObj_core R1 (off:=off) (nv:=[.own k l]) (vs:=[vv]) hHi hw (by simpa [AV.cells] using hoff) rfl
          (fun j hj=>by simp at hj;subst hj;simpa using hrep1) (by simp [AV.isCell])
         have hone : ∀ x∈vv.cells.toList,x.oneCell'=true:=by
          rw [hcells];simp;exact hrep1.oneCell rfl
         have hrun:=storeVar_run hT ht hw (off:=off) (v:=vv) (by rw [hcells];simp [hsz]) (by simp [AV.cells] at hoff;omega) hone
         have hβ:(G.move (.s s) (.oc i off)).β=G.β:=rfl
         rw [hβ] at hrun hcore hO
         refine wp_skip' hnd (w':=w.setRow (G.β (.o i)) (rowOf cur off vv.cells.toList)) (by simp [execOp,hop,hpt,Instr.storeAt,Instr.sureAddr,hval,hvv,hrun]) (hn _ _ _ ?_ ((Ext.move m G w _ _).trans (Ext.setRow hO _)))
         rw [hdst,hcells]
         have hcore':=hcore
         simp only [show (σ.upd [(s,AV.d (D.list k l))] none).heap=σ.heap from rfl] at hcore'
         rw [upd_upd'] at hcore'
         simpa [Act.put,AV.cells,AV.unlim] using hcore'
       ·simp at hob'
     | arr k l=>simp [writeObj] at hob'
     | loop L=>simp [writeObj] at hob'
     | map ag ks es=>simp [writeObj] at hob'
     | dead=>simp [writeObj] at hob'
     | gro k l=>simp [writeObj] at hob'
    ·simp at h
 ·simp at h
end
end Go.Am

namespace Go.Am
open Go
theorem fold_set (off:Nat) : ∀ (l:List Value) (k:Nat) (cells:Array Value),off+k+l.length<=cells.size ->
  ((l.zipIdx k).foldl (fun cs p=>cs.setIfInBounds (off+p.2) p.1) cells).size=cells.size /\
    ∀ j,((l.zipIdx k).foldl (fun cs p=>cs.setIfInBounds (off+p.2) p.1) cells).getD j Go.undef=if off+k<=j/\j<off+k+l.length then l.getD (j-(off+k)) Go.undef else cells.getD j Go.undef
 | [],k,cells,_=>by refine ⟨rfl,fun j => ?_⟩;simp;omega
 | v::r,k,cells,h=>by
   simp at h
   have hsz:(cells.setIfInBounds (off+k) v).size=cells.size:=by simp
   obtain ⟨h1,h2⟩:=fold_set off r (k+1) (cells.setIfInBounds (off+k) v) (by rw [hsz];omega)
   simp only [List.zipIdx_cons,List.foldl_cons]
   refine ⟨h1.trans hsz,fun j => ?_⟩
   rw [h2 j,getD_set _ _ _ _ (by omega)]
   simp only [List.length_cons]
   by_cases hj:off+k=j
   ·subst hj
    rw [if_neg (by omega),if_pos rfl,if_pos (by omega)]
    simp
   ·by_cases hj2:off+(k+1)<=j/\j<off+(k+1)+r.length
    ·rw [if_pos hj2,if_pos (by omega)]
     rw [show j-(off+k)=(j-(off+(k+1)))+1 by omega]
     simp [List.getD]
    ·rw [if_neg hj2,if_neg hj,if_neg (by omega)]
section
variable {P:Program} {T:Types} (hT:TOk P T) {σ:St} {g:Nat->AV} {o:Oper} {ss:Sets} {h':Option (List Obj)} {H:List Obj} {an:Ann}
 (hg:Less g σ) (hgd : ∀ d,o.dst=some d->g d=σ.get d) (h:evBase Ar.std T an σ.n g H o=some (ss,h'))
include hT hg hgd h
omit hT hgd h in
theorem fill_ok {G:Gh} {a:Act} {w:World} (R:Rel G σ a w) {t:TypeId} {place:Nat->Option (Nat×Nat)} (hp : ∀ i ft off sz,partOf T t i=some (ft,off,sz)->place i=some (off,sz)) :
  ∀ (parts:List (Nat×Operand)) (cs cs':List AV) (cells:Array Value),fillIn T g t parts cs=some cs'->cells.size=cs.length ->
    (∀ (j:Nat) (hj:j<cs.length) (ℓ:Loc),RepV G w ℓ cs[j] (cells.getD j Go.undef))->(∀ c∈cs,c.isCell=true) ->
    ∃ cells',Instr.fill place cells (parts.map fun p=>(p.1,a.eval p.2))=some cells'/\cells'.size=cs'.length /\
      (∀ (j:Nat) (hj:j<cs'.length) (ℓ:Loc),RepV G w ℓ cs'[j] (cells'.getD j Go.undef)) /\ ∀ c∈cs',c.isCell=true
 | [],cs,cs',cells,hf,hs,hr,hc=>by simp [fillIn] at hf;subst hf;exact ⟨cells,rfl,hs,hr,hc⟩
 | (i,x)::r,cs,cs',cells,hf,hs,hr,hc=>by
   unfold fillIn at hf
   split at hf
   ·rename_i ft off sz hpart
    split at hf
    ·rename_i v hv
     split at hf
     ·rename_i hcond
      obtain ⟨hlen,hoff,hcell⟩:=hcond
      simp at hcell
      have hv':=fun ℓ=>opv_ok hg R hv ℓ
      obtain ⟨e1,e2⟩:=cells_anywhere (fun ℓ=>(hv' ℓ).1) (hv' .no).2 hcell
      obtain ⟨f1,f2⟩:=fold_set off (a.eval x).cells.toList 0 cells (by simp;omega)
      have hl:(writeAt cs off v.cells).length=cs.length:=write_length _ _ _ (by omega)
      obtain ⟨cells',k1,k2,k3,k4⟩:=fill_ok R hp r _ cs' (((a.eval x).cells.toList.zipIdx 0).foldl (fun cs p=>cs.setIfInBounds (off+p.2) p.1) cells) hf (by rw [f1,hl,hs]) (fun j hj ℓ=>by
       rw [f2 j]
       have e:=write_get cs v.cells off j (by omega)
       have hj':j<cs.length:=by omega
       have e3:(writeAt cs off v.cells)[j]?=some (writeAt cs off v.cells)[j]:=zp1 hj
       rw [show (writeAt cs off v.cells)[j]?=_ from e] at e3
       simp only [Nat.add_zero,Array.length_toList]
       by_cases h1:j<off
       ·rw [if_pos h1,zp1 hj'] at e3
        injection e3 with e3
        rw [<-e3,if_neg (by omega)];exact hr j hj' ℓ
       ·rw [if_neg h1] at e3
        by_cases h2:j<off+v.cells.length
        ·rw [if_pos h2,zp1 (by omega)] at e3
         injection e3 with e3
         rw [<-e3,if_pos (by omega)]
         have:=e2 (j-off) (by omega) ℓ
         simpa [List.getD,zp5] using this
        ·rw [if_neg h2,zp1 hj'] at e3
         injection e3 with e3
         rw [<-e3,if_neg (by omega)];exact hr j hj' ℓ)
       (by
        intro c hcm
        unfold writeAt at hcm
        rcases List.mem_append.1 hcm with hcm | hcm
        ·rcases List.mem_append.1 hcm with hcm | hcm
         ·exact hc c (List.mem_of_mem_take hcm)
         ·exact hcell c hcm
        ·exact hc c (List.mem_of_mem_drop hcm))
      refine ⟨cells',?_,k2,k3,k4⟩
      simp only [List.map_cons,Instr.fill,hp i ft off sz hpart]
      rw [if_neg (by simp;omega)]
      rw [<-k1]
      congr 1
      rw [<-Array.foldl_toList,Array.toList_zipIdx]
     ·simp at hf
    ·simp at hf
   ·simp at hf
omit hT hg hgd h in
theorem mkNil_ok {G:Gh} {w:World} (hs:Sane G) {cs:List AV} {vs:Array Value} (h1:vs.size=cs.length) (h2 : ∀ (j:Nat) (hj:j<cs.length) (ℓ:Loc),RepV G w ℓ cs[j] (vs.getD j Go.undef)) (h3 : ∀ c∈cs,c.isCell=true) (ℓ:Loc) :
  RepV G w ℓ (mkNil cs) (.agg vs):=by
 have key : ∀ (c:AV) (v:Value),(∀ ℓ,RepV G w ℓ c v)->RepV G w .no c.nilLim v:=by
  intro c v hc
  unfold AV.nilLim
  split
  ·cases hc .no with | own _ _ _ _ h ht =>
   refine .lim _ _ _ _ h fun a n cap hv => ?_
   subst hv
   rcases Nat.eq_zero_or_pos cap with h0 | h0
   ·generalize hv':Value.slice a n cap=v at h
    cases h with
    | nil=>injection hv' with _ h2 h3;omega
    | none0=>injection hv' with _ h2 h3;omega
    | list _ _ b off cap' vs=>injection hv' with _ h2 h3;simp at h2;omega
   ·cases a with
    | none=>generalize hv':Value.slice none n cap=v at h;cases h with | nil=>injection hv' with _ h2 h3;omega | none0=>cases hv' | list=>cases hv'
    | some a =>
      obtain ⟨f,c,e,hO,_⟩:=ht a n cap rfl h0
      exact absurd rfl (hs.no _ _ _ hO)
  ·exact (hc .no).copy .no
 refine .agg _ _ _ (by simpa using h1) (fun i hi => ?_) (fun c hc => ?_) (fun c hc => ?_)
 ·rw [List.getElem_map];exact key _ _ (h2 i (by simpa using hi))
 ·obtain ⟨c',h4,rfl⟩:=List.mem_map.1 hc
  unfold AV.nilLim
  split
  ·rfl
  ·exact AV.copy_isCell (h3 _ h4)
 ·obtain ⟨c',h4,rfl⟩:=List.mem_map.1 hc
  unfold AV.nilLim
  split
  ·rfl
  ·exact AV.frl_of (AV.copy_free _)
theorem step_build {t:TypeId} {parts:Array (Nat×Operand)} (hop:o.op = .build t parts):StepOk P σ o ss h':=by
 simp only [evBase,hop] at h
 split at h
 ·rename_i td ht
  split at h
  ·rename_i hcond
   simp at hcond
   obtain ⟨hagg,hknown⟩:=hcond
   obtain ⟨av,hav,hp⟩:=putO_some h
   simp at hav
   obtain ⟨cs',hfill,rfl⟩:=hav
   have hmk2:mkB an o.dst=mkNil\/mkB an o.dst=mkAgg:=by
    unfold mkB
    split
    ·split
     ·exact .inl rfl
     ·exact .inr rfl
    ·exact .inr rfl
   generalize mkB an o.dst=mk at hp hmk2
   have hfree : ∀ l,(mk l).free=true:=by
    intro l
    rcases hmk2 with rfl | rfl
    ·rfl
    ·unfold mkAgg;split <;> rfl
   refine stepOk_pure hgd hp (by simp [hop]) (AV.free_place (AV.free_isLocal (hfree _))) ?_
   intro G a w R
   obtain ⟨i,dd,hi,hdd,hsz,_,huok,z,hz,hzs,hzl,hzc⟩:=hT.info ht
   have key : ∀ (place:Nat->Option (Nat×Nat)),(∀ i ft off sz,partOf T t i=some (ft,off,sz)->place i=some (off,sz)) ->
     (∀ cells,Instr.fill place z.cells (parts.map fun p=>(p.1,a.eval p.2)).toList=some cells->P.built t (parts.map fun p=>(p.1,a.eval p.2)).toList=some cells) ->
     ∃ val,(execOp a.eval o).run P w = .ok (.value val) w /\ ∀ d,RepV G w (.s d) (mk cs') val:=by
    intro place hpl hb
    obtain ⟨cells',k1,k2,k3,k4⟩:=fill_ok hg R hpl parts.toList td.zero cs' z.cells hfill (by omega) (fun j hj ℓ=>(zeroCell_ok (hzc j hj)).1 G w ℓ)
     (fun c hcm=>by obtain ⟨j,hj,rfl⟩:=List.mem_iff_getElem.1 hcm;exact (zeroCell_ok (hzc j hj)).2.1)
    have hbuilt:=hb cells' (by simpa using k1)
    refine ⟨.agg cells',?_,fun d => ?_⟩
    rotate_left
    ·rcases hmk2 with rfl | rfl
     ·exact mkNil_ok R.h.sane k2 k3 k4 _
     ·exact (mkAgg_ok k2 (fun i hi=>⟨.no,k3 i hi .no⟩) k4 _).1
    have:=run_build (P:=P) w t _ cells' hbuilt
    simp [execOp,hop,this]
   cases td with | mk sz u zero =>
   cases u with
   | array m e =>
     have hu:=hT.array ht
     simp [partsKnown] at hknown
     obtain ⟨tde,hte⟩:=Option.isSome_iff_exists.1 hknown
     obtain ⟨ie,_,hie,_,hse,_⟩:=hT.info hte
     refine key (fun i=>some (i*ie.size,ie.size)) ?_ (fun cells hc=>by simp only [Program.built,hi,hu,hz,hie];exact hc)
     intro i ft off sz hpart
     simp only [partOf,ht] at hpart
     split at hpart
     ·simp [hte] at hpart
      obtain ⟨rfl,rfl,rfl⟩:=hpart
      simp [hse]
     ·simp at hpart
   | struct fs =>
     obtain ⟨fields,hu,hmap⟩:=hT.struct ht
     simp [partsKnown] at hknown
     have hplaces : ∃ places,fields.toList.mapM (fun f=>(P.info? f.type).map fun i=>(f.offset,i.size))=some places /\
       ∀ i ft off sz,partOf T t i=some (ft,off,sz)->places[i]?=some (off,sz):=by
      have gen : ∀ (fl:List Field) ,(∀ f∈fl,∃ td,T f.type=some td) -> ∃ places,fl.mapM (fun f=>(P.info? f.type).map fun i=>(f.offset,i.size))=some places /\
        ∀ (i:Nat) (f:Field) (td:TD),fl[i]?=some f->T f.type=some td->places[i]?=some (f.offset,td.size):=by
       intro fl
       induction fl with
       | nil=>intro _;exact ⟨[],rfl,fun i f td h=>by simp at h⟩
       | cons f r ih =>
         intro hk
         obtain ⟨pl,h1,h2⟩:=ih (fun f' hf'=>hk f' (by simp [hf']))
         obtain ⟨tdf,htf⟩:=hk f (by simp)
         obtain ⟨inf,_,hinf,_,hsf,_⟩:=hT.info htf
         refine ⟨(f.offset,inf.size)::pl,by simp [List.mapM_cons,hinf,h1],fun i f' td hf' htd => ?_⟩
         cases i with
         | zero=>simp at hf';subst hf';rw [htf] at htd;injection htd with htd;subst htd;simp [hsf]
         | succ i=>simpa using h2 i f' td (by simpa using hf') htd
      obtain ⟨pl,h1,h2⟩:=gen fields.toList (fun f hf=>by
       have:=hknown f.type f.offset (by rw [<-hmap];exact List.mem_map.2 ⟨f,hf,rfl⟩)
       exact Option.isSome_iff_exists.1 this)
      refine ⟨pl,h1,fun i ft off sz hpart => ?_⟩
      simp only [partOf,ht] at hpart
      split at hpart
      ·rename_i ft' off' hfi
       rw [<-hmap] at hfi
       simp at hfi
       obtain ⟨f,hf1,hf2,hf3⟩:=hfi
       simp at hpart
       obtain ⟨tdf,htf,rfl,rfl,rfl⟩:=hpart
       subst hf2 hf3
       exact h2 i f tdf (by simpa using hf1) htf
      ·simp at hpart
     obtain ⟨places,hp1,hp2⟩:=hplaces
     refine key (places.toArray[·]?) (fun i ft off sz hh=>by simpa using hp2 i ft off sz hh) (fun cells hc=>by
      simp only [Program.built,hi,hu,hz,hp1];exact hc)
   | meth ms =>
     obtain ⟨d,hd,hu⟩:=hT.under ht
     cases d <;> simp [uOk] at hu
     subst hu
     have hp1:(#[]:Array Field).toList.mapM (fun f=>(P.info? f.type).map fun i=>(f.offset,i.size))=some []:=rfl
     refine key (([]:List (Nat×Nat)).toArray[·]?) (fun i ft off sz hh=>by simp [partOf,ht] at hh) (fun cells hc=>by
      simp only [Program.built,hi,hd,hz,hp1];exact hc)
   | _=>simp [TD.isAgg] at hagg
  ·simp at h
 ·simp at h
omit hT hgd h in
theorem elems_ok {G:Gh} {a:Act} {w:World} (R:Rel G σ a w) {e:TypeId} {sz:Nat} : ∀ (parts:List (Nat×Operand)) (i:Nat) (l:List D),elemsOf Ar.std T g e sz parts i=some l ->
  l.length=parts.length/\uniform sz l /\ ∀ (j:Nat) (hj:j<parts.length) (hj':j<l.length),parts[j].1=i+j/\RepD G.K l[j] (a.eval parts[j].2)
 | [],i,l,hl=>by simp [elemsOf] at hl;subst hl;exact ⟨rfl,fun x hx=>by simp at hx,fun j hj=>by simp at hj⟩
 | (q,x)::r,i,l,hl=>by
   unfold elemsOf at hl
   split at hl
   ·rename_i v hv
    split at hl
    ·rename_i y l' hd hr
     split at hl
     ·rename_i hc
      simp at hl;subst hl
      obtain ⟨h1,h2,h3⟩:=elems_ok R r (i+1) l' hr
      refine ⟨by simp [h1],?_,fun j hj hj' => ?_⟩
      ·intro z hz
       rcases List.mem_cons.1 hz with rfl | hz
       ·exact fitsD_std hc.2
       ·exact h2 z hz
      ·cases j with
       | zero =>
         refine ⟨by simp [hc.1],?_⟩
         obtain ⟨_,e2⟩:=dataOf_some hd
         simpa using e2 0 (by simp) (by simp) G w .no _ (opv_ok hg R hv .no).1
       | succ j =>
         obtain ⟨e1,e2⟩:=h3 j (by simpa using hj) (by simpa using hj')
         exact ⟨by simp;omega,by simpa using e2⟩
     ·simp at hl
    ·simp at hl
   ·simp at hl
omit hT hg hgd h in
theorem RepD.cells {K:Addr->Option Value} {x:D} {v:Value} (h:RepD K x v):v.cells.size=x.cells.length/\(∀ (i:Nat) (hi:i<x.cells.length),RepD K x.cells[i] (v.cells.getD i Go.undef)) /\
  ∀ i,i<x.cells.length->(v.cells.getD i Go.undef).oneCell'=true:=by
 have one : ∀ {x:D} {v:Value},RepD K x v->x.cells=[x]->v.cells = #[v]->v.oneCell'=true->v.cells.size=x.cells.length/\(∀ (i:Nat) (hi:i<x.cells.length),RepD K x.cells[i] (v.cells.getD i Go.undef)) /\
   ∀ i,i<x.cells.length->(v.cells.getD i Go.undef).oneCell'=true:=by
  intro x v h h1 h2 h3
  refine ⟨by rw [h1,h2];rfl,fun i hi => ?_,fun i hi => ?_⟩
  ·have:i=0:=by rw [h1] at hi;simpa using hi
   subst this
   simpa [h1,h2] using h
  ·have:i=0:=by rw [h1] at hi;simpa using hi
   subst this
   simpa [h2] using h3
 cases h with
 | agg cs vs hs h h1 =>
   refine ⟨by simpa [Value.cells,D.cells] using hs,fun i hi=>h i hi,fun i hi => ?_⟩
   have hi':i<vs.size:=by simp [D.cells] at hi;omega
   simpa [Value.cells,Array.getD,hi'] using h1 vs[i] (Array.getElem_mem hi')
 | bool b=>exact one (.bool b) rfl rfl rfl
 | int k n=>exact one (.int k n) rfl rfl rfl
 | str s=>exact one (.str s) rfl rfl rfl
 | iface z=>exact one (.iface z) rfl (by unfold ifaceV;split <;> rfl) (by unfold ifaceV;split <;> rfl)
 | ref cs b off vs hK h1 h=>exact one (.ref cs b off vs hK h1 h) rfl rfl rfl
 | nil k=>exact one (.nil k) rfl rfl rfl
 | none0 k a=>exact one (.none0 k a) rfl rfl rfl
 | list k l b off cap vs hu hc hK h1 h=>exact one (.list k l b off cap vs hu hc hK h1 h) rfl rfl rfl
end
def cellsOf (vs:List Value):List Value:=vs.flatMap fun v=>v.cells.toList
theorem cellsOf_length {k:Nat} : ∀ {vs:List Value},(∀ v∈vs,v.cells.size=k)->(cellsOf vs).length=vs.length*k
 | [],_=>by simp [cellsOf]
 | v::r,h=>by
   have ih:=cellsOf_length (vs:=r) (fun x hx=>h x (by simp [hx]))
   have hv:=h v (by simp)
   simp only [cellsOf,List.flatMap_cons,List.length_append,Array.length_toList,List.length_cons] at ih ⊢
   rw [ih,hv,Nat.add_mul];omega
theorem cellsOf_get {k:Nat} : ∀ {vs:List Value},(∀ v∈vs,v.cells.size=k) -> ∀ {i:Nat} {v:Value},vs[i]?=some v -> ∀ j,j<k->(cellsOf vs)[i*k+j]?=v.cells[j]?
 | [],_,i,v,h,_,_=>by simp at h
 | x::r,hu,0,v,h,j,hj=>by
   simp at h;subst h
   have hx:x.cells.size=k:=hu _ (by simp)
   simp only [cellsOf,List.flatMap_cons,Nat.zero_mul,Nat.zero_add]
   rw [zp7 (by simp;omega)]
   simp
 | x::r,hu,i+1,v,h,j,hj=>by
   have hx:x.cells.size=k:=hu _ (by simp)
   have ih:=cellsOf_get (vs:=r) (fun z hz=>hu z (by simp [hz])) (i:=i) (v:=v) (by simpa using h) j hj
   simp only [cellsOf,List.flatMap_cons] at ih ⊢
   rw [zp8 (by simp [Nat.add_mul];omega),<-ih]
   congr 1
   simp [Nat.add_mul];omega
theorem flat_rep {K:Addr->Option Value} {k:Nat} (hk:0<k) {l:List D} {vs:List Value} (hlen:l.length=vs.length) (hu:uniform k l)
  (h : ∀ (j:Nat) (hj:j<l.length) (hj':j<vs.length),RepD K l[j] vs[j]) :
  (cellsOf vs).length=(D.flat l).length /\ ∀ (q:Nat) (hq:q<(D.flat l).length),RepD K (D.flat l)[q] ((cellsOf vs).getD q Go.undef)/\((cellsOf vs).getD q Go.undef).oneCell'=true:=by
 have hvu : ∀ v∈vs,v.cells.size=k:=by
  intro v hv
  obtain ⟨j,hj,rfl⟩:=List.mem_iff_getElem.1 hv
  have:=(h j (by omega) hj).cells.1
  rw [this];exact hu _ (zp6 _)
 refine ⟨by rw [cellsOf_length hvu,flat_length hu,hlen],fun q hq => ?_⟩
 rw [flat_length hu] at hq
 have hi:q / k<l.length:=Nat.div_lt_of_lt_mul (by rw [Nat.mul_comm];exact hq)
 have hj:q%k<k:=Nat.mod_lt _ hk
 have e:=Nat.div_add_mod q k
 have hq':q / k*k+q%k=q:=by rw [Nat.mul_comm];exact e
 have c1:=flat_get hu (i:=q / k) (y:=l[q / k]) (zp1 hi) (q%k) hj
 have c2:=cellsOf_get hvu (i:=q / k) (v:=vs[q / k]'(by omega)) (zp1 (by omega)) (q%k) hj
 rw [hq'] at c1 c2
 obtain ⟨r1,r2,r3⟩:=(h (q / k) hi (by omega)).cells
 have hyk:l[q / k].cells.length=k:=hu _ (zp6 _)
 rw [zp1 (by omega:q%k<l[q / k].cells.length)] at c1
 obtain ⟨c3,c4⟩:=zp2.1 c1
 have c5:(cellsOf vs).getD q Go.undef=(vs[q / k]'(by omega)).cells.getD (q%k) Go.undef:=by
  simp only [List.getD_eq_getElem?_getD,c2,zp5]
 rw [c5,c4]
 exact ⟨r2 _ (by omega),r3 _ (by omega)⟩
end Go.Am
