import Derived.CallsIn
set_option linter.unusedSimpArgs false
set_option linter.unusedVariables false
namespace Go.Am
open Go
def rwd {α:Type}:Result α->World
 | .ok _ w=>w
 | .halt _ w=>w
theorem b4c {α:Type} : ∀ (x:Ask α) (w:World),w.drawn<=(w.ask x).2.drawn
 | .done _,w=>Nat.le_refl _
 | .ask what range k,w=>by
   unfold World.ask;dsimp only;split
   ·exact b4c _ _
   exact Nat.le_trans (Nat.le_succ _) (b4c (k _) { w with drawn:=w.drawn+1 })
theorem b4d (w:World) (c:Sys):w.drawn<=(w.sys c).2.drawn:=by
 have:=b4c (Kernel.perform c w.os) w;unfold World.sys;split
 ·exact Nat.le_refl _
 rename_i h;rw [h] at this;exact this
theorem a9h {p:Program} {w w':World} {a k:Addr} {u:TypeId} {v:Value} {b:Bool} {l:List Addr} (h:w.viewStore p a u k v b = .ok (w',l)):w'.drawn=w.drawn:=by
 unfold World.viewStore at h;simp only [bind,Except.bind,pure,Except.pure,throw,throwThe,MonadExceptOf.throw,MonadExcept.throw] at h
 repeat' split at h
 all_goals first
  | (cases h;rfl)
  | cases h
  | (injection h with h;injection h with h h2;rw [<-h])
  | skip
theorem a5W {p:Program} {w w':World} {a:Addr} {v:Value} {b:Bool} {l:List Addr} (h:w.farStore p a v b = .ok (w',l)):w'.drawn=w.drawn:=by
 unfold World.farStore at h;split at h
 ·split at h
  ·rename_i r hr;cases h;exact a9h hr
  cases h
 cases h
theorem a9i (w:World) (a:Addr) (n:Nat):(w.freeze a n).drawn=w.drawn:=by
 unfold World.freeze;split <;> rfl
theorem b4e {α:Type} (p:Program) (s:Sem α) : ∀ w:World,w.drawn<=(rwd (s.run p w)).drawn:=by
 induction s with
 | pure a=>intro w;exact Nat.le_refl _
 | load m a k ih =>
   intro w;unfold Sem.run;split
   ·exact ih _ w
   split
   ·exact ih _ w
   exact Nat.le_refl _
 | store m a v k ih =>
   intro w
   have key : ∀ v:Value,w.drawn<=(rwd (match w.cell? a with
    | some _=>if w.frozen? a then .halt (.unsupported (.unsafePointer "a write to bytes that a string shares")) w else k.run p (w.setCell a v)
    | none=>match w.farStore p a v (m == .atomic) with
      | .ok (w,_)=>k.run p w
      | .error h => .halt h w)).drawn:=fun v=>by
    split
    ·split
     ·exact Nat.le_refl _
     exact ih (w.setCell a v)
    split
    ·rename_i h;rw [<-a5W h];exact ih _
    exact Nat.le_refl _
   cases v <;> first | exact Nat.le_refl _ | exact key _
 | new o k ih =>
   intro w;unfold Sem.run;exact ih _ { w with heap:=w.heap.push o }
 | shape r k ih=>intro w;unfold Sem.run;exact ih _ w
 | freeze a n k ih =>
   intro w;unfold Sem.run;have:=ih (w.freeze a n)
   rwa [a9i] at this
 | frozen a k ih=>intro w;unfold Sem.run;exact ih _ w
 | getObj r k ih =>
   intro w;unfold Sem.run;split
   ·exact Nat.le_refl _
   ·exact ih _ w
   exact Nat.le_refl _
 | setObj r o k ih =>
   intro w;unfold Sem.run;split
   ·exact Nat.le_refl _
   ·exact ih { w with heap:=w.heap.setIfInBounds r o }
   exact Nat.le_refl _
 | choose q k ih =>
   intro w;unfold Sem.run;split
   ·exact ih _ w
   exact Nat.le_trans (Nat.le_succ _) (ih _ { w with drawn:=w.drawn+1 })
 | sys c k ih =>
   intro w;unfold Sem.run;exact Nat.le_trans (b4d w c) (ih _ _)
 | program k ih=>intro w;unfold Sem.run;exact ih _ w
 | mark m k ih=>intro w;unfold Sem.run;exact ih w
 | halt h=>intro w;exact Nat.le_refl _
theorem a7O {α:Type} (p:Program) (s:Sem α) : ∀ (w:World) (es:Array Event),w.drawn<=(rwd (s.runT p w es).1).drawn:=by
 induction s with
 | pure a=>intro w es;exact Nat.le_refl _
 | load m a k ih =>
   intro w es;unfold Sem.runT;split
   ·exact ih _ w _
   split
   ·exact ih _ w _
   exact Nat.le_refl _
 | store m a v k ih =>
   intro w es
   have key : ∀ v:Value,w.drawn<=(rwd ((match w.cell? a with
    | some _ =>
      if w.frozen? a then (.halt (.unsupported (.unsafePointer "a write to bytes that a string shares")) w,es)
      else k.runT p (w.setCell a v) (es.push ⟨.cell a,true,m == .atomic⟩)
    | none=>match w.farStore p a v (m == .atomic) with
      | .ok (w,touched)=>k.runT p w (es++touched.toArray.map (⟨.cell ·,true,m == .atomic⟩))
      | .error h=>(.halt h w,es):Result α×Array Event)).1).drawn:=fun v=>by
    split
    ·split
     ·exact Nat.le_refl _
     exact ih (w.setCell a v) _
    split
    ·rename_i h;rw [<-a5W h];exact ih _ _
    exact Nat.le_refl _
   cases v <;> first | exact Nat.le_refl _ | exact key _
 | new o k ih =>
   intro w es;unfold Sem.runT;exact ih _ { w with heap:=w.heap.push o } _
 | shape r k ih=>intro w es;unfold Sem.runT;exact ih _ w _
 | freeze a n k ih =>
   intro w es;unfold Sem.runT;have:=ih (w.freeze a n) es
   rwa [a9i] at this
 | frozen a k ih=>intro w es;unfold Sem.runT;exact ih _ w _
 | getObj r k ih =>
   intro w es;unfold Sem.runT;split
   ·exact Nat.le_refl _
   ·exact ih _ w _
   exact Nat.le_refl _
 | setObj r o k ih =>
   intro w es;unfold Sem.runT;split
   ·exact Nat.le_refl _
   ·exact ih { w with heap:=w.heap.setIfInBounds r o } _
   exact Nat.le_refl _
 | choose q k ih =>
   intro w es;unfold Sem.runT;split
   ·exact ih _ w _
   exact Nat.le_trans (Nat.le_succ _) (ih _ { w with drawn:=w.drawn+1 } _)
 | sys c k ih =>
   intro w es;unfold Sem.runT;exact Nat.le_trans (b4d w c) (ih _ _ _)
 | program k ih=>intro w es;unfold Sem.runT;exact ih _ w _
 | mark m k ih=>intro w es;unfold Sem.runT;exact ih w _
 | halt h=>intro w es;exact Nat.le_refl _
theorem a1o {α:Type} {p:Program} {s:Sem α} {w w':World} {a:α} (h:s.run p w = .ok a w'):w.drawn<=w'.drawn:=by
 have:=b4e p s w;rw [h] at this;exact this
theorem a4c {α:Type} {p:Program} {s:Sem α} {w w':World} {a:Halt} (h:s.run p w = .halt a w'):w.drawn<=w'.drawn:=by
 have:=b4e p s w;rw [h] at this;exact this
theorem a2T {α:Type} {p:Program} {s:Sem α} {w w':World} {es:Array Event} {a:α} (h:(s.runT p w es).1 = .ok a w'):w.drawn<=w'.drawn:=by
 have:=a7O p s w es;rw [h] at this;exact this
theorem a2v {α:Type} {p:Program} {s:Sem α} {w w':World} {es:Array Event} {a:Halt} (h:(s.runT p w es).1 = .halt a w'):w.drawn<=w'.drawn:=by
 have:=a7O p s w es;rw [h] at this;exact this
def gwd:GStep->World
 | .go _ w _=>w
 | .comm _ _ _ _ w _=>w
 | .spawn _ _ w _=>w
 | .count _ w _=>w
 | .timer _ _ w _=>w
 | .alone _ _ w _=>w
 | .newcoro _ _ _ w _=>w
 | .coroswitch _ _ _ w _=>w
 | .collect _ w _=>w
 | .watch _ w _=>w
 | .ended _ w _=>w
def GLe (w:World) (s:GStep):Prop:=w.drawn<=(gwd s).drawn
theorem b5C (es:Array Event) (s:GStep):gwd (s.after es)=gwd s:=by cases s <;> rfl
theorem GLe.after {w:World} {s:GStep} (es:Array Event) (h:GLe w s):GLe w (s.after es):=by unfold GLe;rw [b5C];exact h
theorem GLe.tr {w w':World} {s:GStep} (h:w.drawn<=w'.drawn) (h':GLe w' s):GLe w s:=Nat.le_trans h h'
theorem b1T (w:World) (fd:Nat) (t:ByteArray) (o:Outcome):GLe w (endWith w fd t o):=by
 have:=b4d w (.write fd t);unfold endWith;dsimp only;split
 ·rename_i h;rw [h] at this;split <;> exact this
 ·rename_i h;rw [h] at this;exact this
 rename_i h;rw [h] at this;exact this
theorem a5X (fr:Frame) (m:String) (w:World):GLe w (endThrow fr m w):=Nat.le_refl _
theorem a3E (p:Program) (fr:Frame) (v:Value) (w:World):GLe w (endPrinting p fr v w):=by
 unfold endPrinting;dsimp only;split <;> exact Nat.le_refl _
theorem a5Y (p:Program) (fr:Frame) (cs:List Frame) (d:Option Dying) (m:String) (w:World):GLe w (endFatal p fr cs d m w):=by
 unfold endFatal;dsimp only;split
 ·rename_i h;exact a1o h
 ·rename_i h;exact a4c h
 rename_i h;exact a4c h
theorem b1U (p:Program) (fr:Frame) (d:Dying) (f:Fatal) (w:World):GLe w (writeOn p fr d f w):=by
 unfold writeOn;dsimp only;split
 ·exact Nat.le_refl _
 split
 ·rename_i h;exact a2T (congrArg Prod.fst h)
 ·rename_i h;exact a2v (congrArg Prod.fst h)
 ·rename_i h;exact a2v (congrArg Prod.fst h)
 rename_i h;exact a2v (congrArg Prod.fst h)
theorem c0m (p:Program) (fr:Frame) (d:Dying) (w:World):GLe w (die p fr d w):=by
 unfold die;dsimp only;split
 ·exact b1U ..
 split
 ·split
  ·exact Nat.le_refl _
  exact b1T ..
 split
 ·exact Nat.le_refl _
 ·split
  ·rename_i h;exact a1o h
  rename_i h;exact a4c h
 ·refine GLe.after _ ?_;split
  ·rename_i h;exact a2T h
  ·rename_i h;exact a2T h
  ·rename_i h;exact a2v h
  ·rename_i h;exact GLe.tr (a2v h) (a3E ..)
  exact Nat.le_refl _
 exact Nat.le_refl _
theorem a2U (p:Program) (main:Bool) (fr:Frame) (cs:List Frame) (d:Option Dying) (v:Value) (w:World):GLe w (doReturn p main fr cs d v w):=by
 unfold doReturn;dsimp only
 repeat' split
 all_goals exact Nat.le_refl _
theorem a5Z (p:Program) (fr:Frame) (cs:List Frame) (dy:Option Dying) (d:Deferred) (w:World):GLe w (callDeferred p fr cs dy d w):=by
 have hr:=a7O p (invoke d.target d.args) w #[];unfold callDeferred;generalize (invoke d.target d.args).runT p w #[]=q at hr;obtain ⟨r,es⟩:=q;simp only at hr;generalize ((match d.target with | .nil=>true | _=>false)&&(match fr.mode with | .panicking _=>true | _=>false))=c
 cases c
 ·refine GLe.after _ ?_;cases r with
  | ok a w1 =>
    cases a <;> first
     | exact hr
     | (dsimp only;split <;> exact hr)
     | (rename_i b;cases b <;> exact hr)
     | (rename_i b v;cases b <;> exact hr)
  | halt h w1 =>
    cases h <;> first
     | exact hr
     | exact GLe.tr hr (a5Y ..)
     | exact GLe.tr hr (a5X ..)
 exact Nat.le_refl _
theorem b4f (p:Program) (main:Bool) (fr:Frame) (cs:List Frame) (dy:Option Dying) (w:World):GLe w (unwind p main fr cs dy w):=by
 unfold unwind;dsimp only;split
 ·refine GLe.after _ ?_;split
  ·rename_i h;exact a2T h
  rename_i h;exact a2v h
 ·exact a5Z ..
 split
 ·exact Nat.le_refl _
 ·split
  ·exact Nat.le_refl _
  split
  ·exact Nat.le_refl _
  split
  ·split
   ·exact Nat.le_refl _
   split
   ·rename_i h;exact a1o h
   ·rename_i h;exact a4c h
   rename_i h;exact a4c h
  split
  ·exact a3E ..
  exact Nat.le_refl _
 split
 ·exact a2U ..
 refine GLe.after _ ?_;split
 ·rename_i h;exact GLe.tr (a2T h) (a2U ..)
 ·rename_i h;exact a2v h
 rename_i h;exact a2v h
theorem b5D (p:Program) (fr:Frame) (cs:List Frame) (dy:Option Dying) (g:Nat) (w:World):GLe w (early p fr cs dy g w):=by
 have hn : ∀ w':World,w.drawn<=w'.drawn->GLe w (match w'.heap[g]? with
  | some (.pending c elem) => .go { frame:=fr,callers:=cs,status := .running,dying:=dy } { w' with heap:=w'.heap.setIfInBounds g (.cells c elem) }
  | _ => .ended (.stuck "early: the variable does not wait" (fr.pos p)) w'):=fun w' h=>by
  split
  ·exact h
  exact h
 unfold early;dsimp only
 repeat' split
 all_goals first
  | exact Nat.le_refl _
  | exact hn _ (Nat.le_refl _)
  | (rename_i h;exact a1o h)
  | (rename_i h;exact a4c h)
  | (rename_i h;exact hn _ (a1o h))
  | exact a1o (s:=choose (.early g)) (p:=p) (a:=0) (by assumption)
  | skip
 rename_i h x c e h2;have q:=a1o h;exact q
theorem GLe.elim {α:Type} {w:World} {o:Option α} {a:GStep} {f:α->GStep} (h1:GLe w a) (h2 : ∀ x,GLe w (f x)):GLe w (o.elim a f):=by
 cases o with
 | none=>exact h1
 | some x=>exact h2 x
theorem a5k (p:Program) (fr:Frame) (cs:List Frame) (dy:Option Dying) (s:Sem Next) (w:World) (l:Bool):GLe w (stepG.apply p l fr cs dy s w):=by
 unfold stepG.apply;dsimp only;have hr:w.drawn<=(rwd (if l then s.runT p w #[] else (s.run p w,#[])).1).drawn:=by
  split
  ·exact a7O ..
  exact b4e ..
 generalize (if l then s.runT p w #[] else (s.run p w,#[]))=q at hr
 obtain ⟨r,es⟩:=q;simp only at hr ⊢;refine GLe.after _ ?_;cases r with
 | ok a w1 =>
   have hr:w.drawn<=w1.drawn:=hr;cases a <;> first
    | exact hr
    | (dsimp only;repeat' split) <;> exact hr
 | halt h w1 =>
   have hr:w.drawn<=w1.drawn:=hr;cases h <;> first
    | exact hr
    | exact GLe.tr hr (a5Y ..)
    | exact GLe.tr hr (a5X ..)
    | (rename_i u;cases u <;> first | exact hr | exact GLe.tr hr (b5D ..))
theorem b7W (p:Program) (l:Bool) (fr:Frame) (cs:List Frame) (dy:Option Dying) (w:World):GLe w (stepG.oper p l fr cs dy w):=by
 unfold stepG.oper;split
 ·exact Nat.le_refl _
 split <;> exact a5k ..
set_option maxHeartbeats 4000000 in
theorem b7X (p:Program) (main l:Bool) (fr:Frame) (cs:List Frame) (dy:Option Dying) (w:World):GLe w (stepG.exec p main l fr cs dy w):=by
 unfold stepG.exec;dsimp only
 repeat' split
 all_goals first
  | exact Nat.le_refl _
  | exact a5k ..
  | exact b7W ..
  | (rename_i h;exact GLe.after _ (GLe.tr (a2T h) (a2U ..)))
  | (rename_i h;exact GLe.after _ (GLe.tr (a2T h) (a5k ..)))
  | (rename_i h;exact GLe.after _ (a2T h))
  | (rename_i h;exact GLe.after _ (a2v h))
  | (rename_i h;exact a1o h)
  | (rename_i h;exact a4c h)
  | exact GLe.elim (Nat.le_refl _) (fun _=>Nat.le_refl _)
  | (rename_i h;exact GLe.elim (GLe.after _ (GLe.tr (a2T h) (a2U ..))) (fun _=>Nat.le_refl _))
  | (rename_i h;exact GLe.elim (GLe.after _ (a2v h)) (fun _=>Nat.le_refl _))
  | exact GLe.elim (Nat.le_refl _) (fun _=>a5k ..)
  | skip
theorem b5E (p:Program) (main:Bool) (g:Goroutine) (w:World) (l:Bool):GLe w (stepG p main g w l):=by
 unfold stepG;dsimp only;split
 ·exact c0m ..
 ·exact b7X ..
 exact b4f ..
structure SLe (w:World) (s:Stepped):Prop where
 le : ∀ m,s = .next m->w.drawn<=m.world.drawn
theorem SLe.ended (w:World) (o:Outcome) (w':World):SLe w (.ended o w'):=⟨fun m h=>by cases h⟩
theorem SLe.next {w:World} {m:Machine} (h:w.drawn<=m.world.drawn):SLe w (.next m):=⟨fun m' h'=>by cases h';exact h⟩
theorem SLe.tr {w w':World} {s:Stepped} (h:w.drawn<=w'.drawn) (h':SLe w' s):SLe w s:=⟨fun m hm=>Nat.le_trans h (h'.le m hm)⟩
theorem b4g (p:Program) (gs:Array Goroutine) (rest:Rest) (w:World):SLe w (look p gs rest w):=by
 unfold look;dsimp only;split
 ·split
  ·exact SLe.ended ..
  split
  ·exact SLe.ended ..
  split
  ·rename_i h;exact SLe.next (Nat.le_trans (a1o h) (Nat.le_refl _))
  ·exact SLe.ended ..
  exact SLe.ended ..
 exact SLe.ended ..
theorem a9j {rest:Rest} {cs:Array CommCase} {w w':World} (h:waitingAt rest cs w=some w'):w'.drawn=w.drawn:=by
 unfold waitingAt at h;split at h
 ·split at h
  ·cases h;rfl
  cases h
 cases h;rfl
set_option maxHeartbeats 4000000 in
theorem a6p (p:Program) (rest:Rest) (gs:Array Goroutine) (i:Nat) (g:Goroutine) (cs:Array CommCase) (b:Bool) (sh:CommShape) (w:World):SLe w (communicate p rest gs i g cs b sh w).1:=by
 unfold communicate;dsimp only;split
 ·exact SLe.ended ..
 split
 ·split
  ·split
   ·rename_i h;exact SLe.next (Nat.le_of_eq (a9j h).symm)
   exact SLe.ended ..
  exact SLe.next (Nat.le_refl _)
 split
 ·exact SLe.ended ..
 rename_i hp;refine SLe.tr (a1o hp) ?_
 repeat' split
 all_goals first
  | exact SLe.ended ..
  | exact SLe.next (Nat.le_refl _)
  | (rename_i h;exact SLe.next (Nat.le_trans (a1o h) (Nat.le_refl _)))
  | (rename_i h;exact SLe.next (Nat.le_trans (a4c h) (Nat.le_refl _)))
  | (rename_i h x r e;exact SLe.next (Nat.le_trans (a1o h) (Nat.le_refl _)))
  | (rename_i h x e;exact SLe.next (Nat.le_trans (a1o h) (Nat.le_refl _)))
  | (rename_i h x y e;exact SLe.next (Nat.le_trans (a4c h) (Nat.le_refl _)))
  | skip
theorem b5F (w:World) (c:Nat):(drain w c).2.drawn=w.drawn:=by
 unfold drain;split <;> rfl
theorem a9k (m:Machine) (k:Nat) (t:Timer) (a b:Nat):(retime m k t a b).2.world.drawn=m.world.drawn:=by
 unfold retime;dsimp only;split
 ·exact b5F ..
 rfl
theorem b1V {m:Machine} {o:TimerOp} {v:Value} {m':Machine} (h:timerOp m o = .ok (v,m')):m'.world.drawn=m.world.drawn:=by
 unfold timerOp at h;have hn : ∀ (m1:Machine) (var:Addr) (f:Nat->Timer->Value×Machine),(∀ k t,(f k t).2.world.drawn=m1.world.drawn)->timerOp.named m var f = .ok (v,m')->m'.world.drawn=m1.world.drawn:=fun m1 var f hf h=>by
  unfold timerOp.named at h;split at h
  ·injection h with h
   rw [<-hf,h]
  cases h
 split at h
 ·split at h
  ·cases h;rfl
  split at h
  ·split at h
   ·cases h
   cases h;rfl
  cases h
 ·exact hn m _ _ (fun k t=>a9k ..) h
 ·split at h
  ·rename_i m1 hm1;have e:m1.world.drawn=m.world.drawn:=by
    unfold timerOp.opened at hm1;split at hm1
    ·split at hm1
     ·cases hm1;rfl
     cases hm1
    cases hm1;rfl
   rw [<-e];exact hn m1 _ _ (fun k t=>a9k ..) h
  cases h
 cases h;rfl
theorem b5G (p:Program) (m:Machine) (k:Nat):SLe m.world (serve p m k):=by
 unfold serve;dsimp only;split
 ·exact SLe.ended ..
 ·exact SLe.next (Nat.le_refl _)
 split
 ·exact SLe.ended ..
 exact SLe.next (Nat.le_refl _)
theorem a6a {fr:Frame} {s:String} {w w':World} {g:Goroutine} {es:Array Event} (h:endThrow fr s w = .go g w' es):w'=w:=by
 unfold endThrow dieOf at h;cases h;rfl
set_option maxHeartbeats 4000000 in
theorem a9l (p:Program) (m:Machine) (i:Nat) (l:Bool):SLe m.world (Go.runT p m i l).1:=by
 unfold Go.runT;dsimp only;generalize (m.gs.swapAt! i { (default:Goroutine) with status := .finished })=q
 obtain ⟨g,gs⟩:=q;dsimp only;have h:=b5E p (i == 0) g m.world l;generalize stepG p (i == 0) g m.world l=s at h;cases s with
 | ended o w _=>exact SLe.ended ..
 | comm g cases_ b sh w _=>exact SLe.tr h (a6p ..)
 | go g w _=>exact SLe.next h
 | spawn g c w _=>exact SLe.next h
 | count g w _ =>
   dsimp only;split
   ·exact SLe.ended ..
   exact SLe.next h
 | alone g on w _=>exact SLe.next h
 | collect g w _=>exact SLe.tr h (b4g ..)
 | watch g w _=>exact SLe.next h
 | newcoro g c d w _=>exact SLe.next h
 | coroswitch g c x w _ =>
   dsimp only;split
   ·exact SLe.next h
   ·split
    ·rename_i hh;have:=a6a hh;subst this;exact SLe.next h
    exact SLe.ended ..
   exact SLe.ended ..
 | timer g op w _ =>
   dsimp only;split
   ·rename_i hh;exact SLe.next (Nat.le_trans h (Nat.le_of_eq (b1V hh).symm))
   ·split
    ·rename_i hh;have:=a6a hh;subst this;exact SLe.next h
    exact SLe.ended ..
   ·exact SLe.ended ..
   exact SLe.ended ..
def MLe (w:World):Move->Prop
 | .goroutine m _=>w.drawn<=m.world.drawn
 | .machine s _=>SLe w s
theorem MLe.tr {w w':World} {s:Move} (h:w.drawn<=w'.drawn) (h':MLe w' s):MLe w s:=by
 cases s with
 | goroutine m i=>exact Nat.le_trans h h'
 | machine s ops=>exact SLe.tr h h'
theorem endWith_ended (w:World) (fd:Nat) (t:ByteArray) (o:Outcome) : ∃ o' w',endWith w fd t o = .ended o' w':=by
 unfold endWith;dsimp only
 repeat' split
 all_goals exact ⟨_,_,rfl⟩
set_option maxHeartbeats 4000000 in
theorem a7P (p:Program) (m:Machine):MLe m.world (askOn p m):=by
 unfold askOn;dsimp only
 have pick : ∀ m1:Machine,MLe m1.world (match (choose (.sched (runnable m.gs m.world.os.mono).length)).run p m1.world with
   | .halt _ w => .machine (.ended (.stuck "sched" "") w)
   | .ok k world =>
     if (runnable m.gs m.world.os.mono).length<=1 then .goroutine { m1 with world } ((runnable m.gs m.world.os.mono).getD k 0) else
     match (choose (.extern "sched.slice" 65536)).run p world with
     | .halt _ w => .machine (.ended (.stuck "sched.slice" "") w)
     | .ok n world => .goroutine { m1 with world,rest:={ m1.rest with slice:=if n=0 then none else some ((runnable m.gs m.world.os.mono).getD k 0,n) } } ((runnable m.gs m.world.os.mono).getD k 0)):=fun m1=>by
  split
  ·exact SLe.ended ..
  rename_i h;split
  ·exact a1o h
  split
  ·exact SLe.ended ..
  rename_i h2;exact Nat.le_trans (a1o h) (a1o h2)
 split
 ·exact SLe.ended ..
 rename_i k1 w1 h;have h:=a1o h;split
 ·exact SLe.tr h (b5G p { m with world:=w1 } _)
 split
 ·split
  ·exact SLe.next (Nat.le_trans h (Nat.le_refl _))
  split
  ·exact SLe.next (Nat.le_trans h (Nat.le_refl _))
  obtain ⟨o',w',e⟩:=endWith_ended w1 2 _ _;rw [e];exact SLe.ended ..
 split
 ·exact MLe.tr h (pick { m with world:=w1 })
 split
 ·exact SLe.ended ..
 ·rename_i w2 h2;exact MLe.tr (Nat.le_trans h (a1o h2)) (pick { m with world:=w2 })
 ·rename_i w2 h2;exact SLe.next (Nat.le_trans (Nat.le_trans h (a1o h2)) (Nat.le_refl _))
 rename_i w2 h2;refine MLe.tr ?_ (pick (Machine.advanceTo { m with world:=w2 } _))
 exact Nat.le_trans (Nat.le_trans h (a1o h2)) (Nat.le_refl _)
theorem a6b (p:Program) (m:Machine):MLe m.world (Go.ask p m):=by
 unfold Go.ask;split
 ·split
  ·exact SLe.ended ..
  ·rename_i w1 h;have h:=a1o h;have hl:=b4g p m.gs m.rest w1;split
   ·rename_i h2;exact MLe.tr (Nat.le_trans h (hl.le _ h2)) (a7P ..)
   exact SLe.tr h hl
  rename_i a w1 hne h;exact MLe.tr (a1o h) (a7P p { m with world:=w1 })
 exact a7P ..
theorem b7Y (p:Program) (m:Machine):MLe m.world (Go.move p m):=by
 unfold Go.move;split
 ·split
  ·exact Nat.le_refl _
  exact SLe.ended ..
 split
 ·split
  ·exact Nat.le_refl _
  exact a6b p { m with rest:={ m.rest with slice:=none } }
 exact a6b ..
theorem b7Z (p:Program) (m m':Machine) (h:step p m = .next m'):m.world.drawn<=m'.world.drawn:=by
 unfold step stepT at h;have hm:=b7Y p m;split at h
 ·rename_i m1 i he;rw [he] at hm;exact Nat.le_trans hm ((a9l p m1 i true).le _ h)
 rename_i s ops he;rw [he] at hm;exact SLe.le hm _ h
theorem StepsIn.drawn {I:Machine->Prop} {P:Program} {m m':Machine} (h:StepsIn I P m m'):m.world.drawn<=m'.world.drawn:=by
 induction h with
 | refl=>exact Nat.le_refl _
 | head _ hs _ ih=>exact Nat.le_trans (b7Z _ _ _ hs) ih
end Go.Am
