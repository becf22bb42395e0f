/- Own text: AmLoop. -/
import Derived.Test.YtalfdjihejohoaaAmList
import Derived.RangeFuncRecord
set_option linter.unusedSimpArgs false
set_option linter.unusedSectionVars false
namespace Go.Am
open Go
def YCall (P:Program) (l:Nat) (args:List AV) (H:List Obj) (r:AV) (H':List Obj):Prop :=
 r.isLocal=false/\r.inb H'.length=true/\objsInb H'.length H'=true/\H.length<=H'.length /\ ∀ (n:Nat) (G:Gh) (w:World) (vs:Array Value),vs.size=args.length->(∀ (i:Nat) (hi:i<args.length),RepV G w .no args[i] (vs.getD i Go.undef))->RelH G H w ->
  (∀ b ℓ f,G.O b=some (ℓ,f) -> ∃ i,ℓ.root = .o i) ->
  ∃ f tmps assign body,(Instr.yield (G.β (.o l)) vs).run P w = .ok (.round (G.β (.o l)) f tmps assign body) w /\
    RoundIn (Wd none) n P (G.β (.o l)) f tmps assign body w (fun e w' => ∃ v G',e = .returned v/\RepV G' w' .ret r v/\RelH G' H' w'/\Ext H.length G w G' w')
section
variable {P:Program} {T:Types} {m:Nat} {Q:Exit->St->Prop} {σ:St} {ops:Array Oper} {o:Oper} {l:List Oper} {an:Ann}
theorem callY_ok {y:Nat} {args:List AV} (h:callY T σ o=some (y,args)) {G:Gh} {a:Act} {w:World} (R:Rel G σ a w) :
  (∀ c,o.op ≠ .defer c) /\ ∃ vs:Array Value,(execOp a.eval o).run P w=(Instr.yield (G.β (.o y)) vs).run P w/\vs.size=args.length /\ ∀ (i:Nat) (hi:i<args.length),RepV G w .no args[i] (vs.getD i Go.undef):=by
 unfold callY at h
 split at h
 ·rename_i t xs ts hop
  refine ⟨by simp [hop],?_⟩
  split at h
  ·rename_i l' vs hg hvs
   split at h
   ·rename_i hsz
    simp at h
    obtain ⟨rfl,rfl⟩:=h
    obtain ⟨e1,e2⟩:=mapM_some hvs
    have hx:a.eval (.tmp t) = .func (.yield (G.β (.o l'))) #[] #[]:=by
     have hrep:=R.slots t
     rw [hg] at hrep
     show a.tmps.getD t Go.undef=_
     generalize a.tmps.getD t Go.undef=v at hrep
     cases hrep;rfl
    refine ⟨xs.map a.eval,?_,by simp [e1];omega,fun i hi => ?_⟩
    ·simp only [execOp,hop,Sem.run_bind,resolve,hx,Deferred.ofValue,Sem.run_pure,Result.andThen_ok,invoke]
     simp
    ·simp at hi
     have hz:i<(xs.toList.zip ts.toList).length:=by omega
     have:=(opv_ok (less_get σ) R (e2 i hz hi) .no).1.copy .no
     have hxs:i<xs.size:=by simp at hz;omega
     simpa [zp5,hxs] using this
   ·cases h
  ·cases h
 ·cases h
theorem roundIn_wd {r:Option Nat} {n:Nat} {l:Nat} {f:FuncId} {tmps:Array Value} {x y:Code} {w:World} {R:Ending->World->Prop} (h:RoundIn (Wd none) n P l f tmps x y w R):RoundIn (Wd r) n P l f tmps x y w R:=h
theorem AOps.callY {y:Nat} {args:List AV} {H rest H':List Obj} {r:AV} {d:Nat} (hw:wantA ops.toList σ o=some true) (hcall:Am.callY T σ o=some (y,args)) (hH:σ.heap=H++rest)
  (hr:rest=[]\/H'.length=H.length) (hin:objsInb H.length H=true) (hargs:inbL H.length args=true) (hd:o.dst=some d) (hlt:d<σ.n) (hb:(σ.get d).isBox=false)
  (hfr:args.all AV.free=true) (hc:YCall P y args H r H') (h:AOps P m ops l Q { σ with env:=eset σ.env d r,heap:=H'++rest }):AOps P m ops (o::l) Q σ:=by
 intro rr n G a w Q' hm' R hQ
 unfold wpListIn
 rw [if_pos (wantA_ok hw R)]
 obtain ⟨hrl,hri,hin',hHH,hcc⟩:=hc
 obtain ⟨hnd,vs,hrun,hvs,hrep⟩:=callY_ok (P:=P) hcall R
 have RH:RelH G (H++rest) w:=by rw [<-hH];exact R.h
 have hRh:=RH.handed hin
 have hfr' : ∀ c∈args,c.free=true:=by simpa using hfr
 have hsub:Sub G (G.handed H.length) w w (fun ℓ=>ℓ = .no) H.length :=
  ⟨KLe.refl _,fun b ℓ f hl hO=>absurd (hl▸rfl) (R.h.sane.no b ℓ f hO),fun _ _=>rfl,Nat.le_refl _⟩
 refine ⟨fun _ _=>trivial,?_⟩
 rw [Oper.semAt_eq _ _ _ hnd,hrun]
 obtain ⟨f,tmps,asg,body,hy,hround⟩:=hcc (n-1) (G.handed H.length) w vs hvs (fun i hi=>(hrep i hi).sub R.h.sane hsub rfl (inbL_get hargs i hi) (AV.free_isLocal (hfr' _ (zp6 hi)))) hRh (fun b ℓ f hO=>by
  have:=(handed_O hO).2
  cases ℓ <;> simp [objLoc] at this
  ·rename_i i;exact ⟨i,rfl⟩
  ·rename_i i j;exact ⟨i,rfl⟩)
 rw [show (G.handed H.length).β=G.β from rfl] at hy hround
 rw [hy]
 refine ⟨fun hh=>by simp [Wd] at hh,?_⟩
 refine RoundIn.mono (roundIn_wd hround) ?_
 rintro e w' ⟨v,G3,rfl,hv,R3,hE⟩
 obtain ⟨R',hext⟩:=R.back hH hr hHH R3 hE hin' hv hrl hri hlt hb
 show wpListIn _ _ _ _ _ _ (a.put o.dst v) w'
 rw [hd]
 refine h rr n _ _ w' Q' ?_ R' (fun e a' w'' hp=>hQ e a' w'' (hp.ext (hext m hm')))
 have hnh:G.nh=H.length+rest.length:=by rw [<-R.h.nh,hH];simp
 simp [Gh.back];omega
theorem AOps.stepY (hT:TOk P T) {y:Nat} {args:List AV} {o:Oper} {rest:List Oper} {σ1:St} {H Hr H':List Obj} {r:AV} {d:Nat} (h : ∀ A:Ar,A=Ar.std->runP A T an ops.toList l σ = .yield y args o rest σ1)
  (hm:m<=σ.heap.length) (hH:σ1.heap=H++Hr) (hr:Hr=[]\/H'.length=H.length) (hin:objsInb H.length H=true) (hargs:inbL H.length args=true) (hd:o.dst=some d) (hlt:d<σ1.n) (hb:(σ1.get d).isBox=false)
  (hfr:args.all AV.free=true) (hc:YCall P y args H r H') (k:AOps P m ops rest Q { σ1 with env:=eset σ1.env d r,heap:=H'++Hr }):AOps P m ops l Q σ :=
 AOps.run (an:=an) hT l σ hm (by
  rw [h _ rfl]
  intro hcall hw
  refine AOps.callY hw hcall hH hr hin hargs hd hlt hb hfr hc ?_
  intro r n G a w Q' hm' R hQ
  exact k r n G a w Q' hm' R (fun e a' w' hp=>by
   obtain ⟨σ',G',R',hE,hm'',hq⟩:=hp
   exact hQ e a' w' ⟨σ',G',R',hE,hm'',fun _=>hq⟩))
end
section
variable {P:Program} {T:Types} {m i:Nat} {ops:Array Oper} {σ:St} {o:Oper} {an:Ann}
variable {K:St->Prop} {l:List Oper} {xs:List Rec}
end
theorem putObj_pres {G:Gh} {w:World} {b:Nat} {ℓ:Loc} (hO:G.O b=some (ℓ,0)) (ob:Go.Obj):Pres G G w (w.putObj b ob) (fun x=>x≠ℓ) :=
 ⟨KLe.refl _,fun b' x f hx h=>⟨h,World.putObj_heap_other (by rintro rfl;rw [hO] at h;simp at h;exact hx h.1.symm)⟩,fun _ _=>rfl,Nat.le_refl _⟩
theorem Ext.putObj {m:Nat} {G:Gh} {w:World} {b:Nat} {p:Loc×Nat} (hO:G.O b=some p) {r0:Loop} (hb:w.heap[b]?=some (.loop r0)) (r:Loop):Ext m G w G (w.putObj b (.loop r)) where
 K:=KLe.refl _
 new x v h := .inl h
 others b' _ h:=⟨World.putObj_heap_other (by rintro rfl;rw [hO] at h;cases h),h⟩
 size:=by simp
 β _ _:=rfl
 io:=by
  refine ⟨rfl,rfl,fun a _ => ?_,rfl,Nat.le_refl _⟩
  unfold World.frozen?
  by_cases h:a.block=b
  ·subst h;rw [hb,World.putObj_heap_same (Array.getElem?_eq_some_iff.1 hb).1]
  ·rw [World.putObj_heap_other h]
theorem kept_putObj {G:Gh} {w:World} {b:Nat} {ℓ:Loc} (hk : ∀ x v,G.K x=some v->w.cell? x=some v) (hd : ∀ j,G.K ⟨b,j,none⟩=none) (hO:G.O b=some (ℓ,0)) (ob:Go.Obj) :
  ∀ x v,G.K x=some v->(w.putObj b ob).cell? x=some v:=by
 intro x v h
 have hx:=hk x v h
 have hne:x.block≠b:=by
  rintro rfl
  have hspot:x.spot=none:=by
   unfold World.cell? at hx
   split at hx
   ·split at hx
    ·cases hx
    ·rename_i hsp;simpa using hsp
   ·cases hx
  obtain ⟨b,j,s⟩:=x
  simp at hspot;subst hspot
  rw [hd j] at h;cases h
 unfold World.cell? at *
 rwa [World.putObj_heap_other hne]
theorem Rel.setLoop {G:Gh} {σ:St} {a:Act} {w:World} (R:Rel G σ a w) {i:Nat} {L:ALoop} (hi:σ.heap[i]?=some (.loop L)) :
  ∃ r:Loop,w.heap[G.β (.o i)]?=some (.loop r)/\r.state=L.st/\r.pending=L.pending/\r.params=L.params/\r.assign=L.assign/\r.body=L.body /\
    ∀ st p,Rel G { σ with heap:=σ.heap.set i (.loop { L with st:=st,pending:=p }) } a (w.putObj (G.β (.o i)) (.loop { r with state:=st,pending:=p })) /\
      ∀ m,Ext m G w G (w.putObj (G.β (.o i)) (.loop { r with state:=st,pending:=p })):=by
 obtain ⟨fn,tmps,D,hO,hw,hs,hh,hf⟩:=R.h.objs i _ hi
 refine ⟨_,hw,rfl,rfl,rfl,rfl,rfl,fun st p=>⟨?_,fun m=>Ext.putObj hO hw _⟩⟩
 have hpr:=putObj_pres (w:=w) hO (.loop { state:=st,pending:=p,fn,tmps,params:=L.params,assign:=L.assign,body:=L.body,defers:=D })
 have hil:i<σ.heap.length:=(zp2.1 hi).1
 refine ⟨⟨R.h.sane,by simpa using R.h.nh,fun i' ob hob => ?_,kept_putObj R.h.kept (fun j=>(R.h.disj _ _ _ hO).2 j (Nat.zero_le _)) hO _,fun b ℓ f h => ?_⟩,R.size,?_,R.places,?_⟩
 ·by_cases hii:i=i'
  ·subst hii
   simp only [List.getElem?_set_self hil] at hob
   injection hob with hob;subst hob
   refine ⟨fn,tmps,D,hO,World.putObj_heap_same (R.h.disj _ _ _ hO).1,hs,fun t=>(hh t).pres R.h.sane (hpr.no R.h.sane) rfl (fun r off e=>absurd (hf t) (by rw [e];simp [AV.free])) (fun t e=>by cases e),hf⟩
  ·simp only [List.getElem?_set_ne hii] at hob
   exact (R.h.objs i' ob hob).pres R.h.sane (by rw [<-R.h.nh];exact (zp2.1 hob).1) hpr (by simp;exact fun e=>hii e.symm) (by simp)
 ·have:=R.h.disj b ℓ f h;exact ⟨by simpa using this.1,this.2⟩
 ·intro t
  exact (R.slots t).pres R.h.sane hpr (by simp) (fun _ _ _=>rfl) (fun t' e' _=>⟨rfl,fun j=>by simp⟩)
 ·refine ⟨R.df.1,fun x hx => ?_⟩
  obtain ⟨r0,h1,h2,h3⟩:=R.df.2 x hx
  exact ⟨r0,h1,h2,by rw [World.putObj_heap_other (by rintro rfl;rw [hO] at h2;cases h2)];exact h3⟩
def RoundPost (y:Nat) (L:ALoop) (b:Bool) (H':List Obj):Exit->St->Prop
 | .normal,σ=>b=true/\σ.heap[y]?=some (.loop { L with st := .busy }) /\ ∃ junk,σ.heap.set y (.loop { L with st := .ready,pending:=none })=H'++junk
 | .ret,σ=>b=false/\σ.heap[y]?=some (.loop { L with st := .busy }) /\ ∃ junk,σ.heap.set y (.loop { L with st := .done,pending:=some .ret })=H'++junk
 | .exit id,σ=>b=false/\σ.heap[y]?=some (.loop { L with st := .busy }) /\ ∃ junk,σ.heap.set y (.loop { L with st := .done,pending:=some (.exit id) })=H'++junk
 | _,_=>False
theorem fold_params {G:Gh} {w:World} : ∀ (ps:List Tmp) (avs:List AV) (vs:List Value) (env:List (Nat×AV)) (tmps:Array Value),avs.length=ps.length->vs.length=ps.length->(∀ p∈ps,p<tmps.size) ->
  (∀ (i:Nat) (hi:i<avs.length),RepV G w .no avs[i] (vs.getD i Go.undef)/\avs[i].free=true)->(∀ t,RepV G w .no (eget env t) (tmps.getD t Go.undef))->(∀ t,(eget env t).free=true) ->
  ((ps.zip vs).foldl (fun tmps (p:Tmp×Value)=>tmps.setIfInBounds p.1 p.2) tmps).size=tmps.size /\
    (∀ t,RepV G w .no (eget (esets env (ps.zip avs)) t) (((ps.zip vs).foldl (fun tmps (p:Tmp×Value)=>tmps.setIfInBounds p.1 p.2) tmps).getD t Go.undef)) /\ ∀ t,(eget (esets env (ps.zip avs)) t).free=true
 | [],avs,vs,env,tmps,h1,h2,_,_,h5,h6=>⟨rfl,h5,h6⟩
 | p::ps,[],_,_,_,h1,_,_,_,_,_=>by simp at h1
 | p::ps,_::_,[],_,_,_,h2,_,_,_,_=>by simp at h2
 | p::ps,c::avs,v::vs,env,tmps,h1,h2,h3,h4,h5,h6=>by
   have hp:p<tmps.size:=h3 p (by simp)
   have h0:=h4 0 (by simp)
   simp at h0
   obtain ⟨k1,k2,k3⟩:=fold_params ps avs vs (eset env p c) (tmps.setIfInBounds p v) (by simpa using h1) (by simpa using h2) (fun q hq=>by simpa using h3 q (by simp [hq])) (fun i hi=>h4 (i+1) (by simpa using hi))
    (fun t=>by
     rw [eget_eset,getD_set _ _ _ _ hp]
     split
     ·exact h0.1
     ·exact h5 t) (fun t=>by
     rw [eget_eset]
     split
     ·exact h0.2
     ·exact h6 t)
   exact ⟨by simpa using k1,k2,k3⟩
theorem YCall.mk {P:Program} {y:Nat} {L:ALoop} {args:List AV} {H H':List Obj} {b:Bool} (hy:H[y]?=some (.loop L)) (hst:L.st = .ready) (hsz:args.length=L.params.size) (hps:L.params.toList.all (fun p=>decide (p<L.n))=true)
  (hfr:args.all AV.free=true) (hin:objsInb H'.length H'=true) (hHH:H.length<=H'.length)
  (h:AWp P H.length L.assign (fun e σ1=>e = .normal/\σ1.heap[y]?=some (.loop L)/\AWp P H.length L.body (RoundPost y L b H') { σ1 with heap:=σ1.heap.set y (.loop { L with st := .busy }) })
   { env:=esets L.env (L.params.toList.zip args),heap:=H,n:=L.n }):YCall P y args H (.d (.bool b)) H':=by
 refine ⟨rfl,rfl,hin,hHH,?_⟩
 intro n G w vs hvs hrep RH hO
 obtain ⟨fn,tmps,D,hOl,hw,hs,hh,hf⟩:=RH.objs y _ hy
 have hfr' : ∀ c∈args,c.free=true:=by simpa using hfr
 have hyl:y<H.length:=(zp2.1 hy).1
 obtain ⟨k1,k2,k3⟩:=fold_params (G:=G) (w:=w) L.params.toList args vs.toList L.env tmps (by simpa using hsz) (by simp;omega) (fun p hp=>by rw [hs];simpa using List.all_eq_true.1 hps p hp)
  (fun i hi=>⟨by simpa [List.getD,zp5] using hrep i hi,hfr' _ (zp6 hi)⟩) hh hf
 have hyield:=run_yield (P:=P) (args:=vs) hw (by simp [hvs,hsz])
 refine ⟨fn,_,L.assign,L.body,hyield,?_⟩
 have hfold:((L.params.zip vs).foldl (fun tmps (x:Tmp×Value)=>match x with | (t,a)=>tmps.setIfInBounds t a) tmps)=(L.params.toList.zip vs.toList).foldl (fun tmps (p:Tmp×Value)=>tmps.setIfInBounds p.1 p.2) tmps:=by
  rw [<-Array.foldl_toList]
  simp
 have R:Rel G { env:=esets L.env (L.params.toList.zip args),heap:=H,n:=L.n } { tmps:=(L.params.toList.zip vs.toList).foldl (fun tmps (p:Tmp×Value)=>tmps.setIfInBounds p.1 p.2) tmps,defers:=[] } w:=by
  refine ⟨RH,by rw [k1,hs],fun t=>(k2 t).anywhere (k3 t) _,fun t r off ht => ?_,⟨by simp,fun d hd=>by simp at hd⟩⟩
  have:=k3 t
  simp only [St.get] at ht
  rw [ht] at this;simp [AV.free] at this
 refine roundIn_of_wpIn (by trivial) ?_
 rw [hfold]
 refine wpIn_mono (h (some (G.β (.o y))) n G _ w (by rw [RH.nh];exact Nat.le_refl _) R) ?_
 rintro e a1 w1 ⟨σ1,G1,R1,hE1,hm1,rfl,hy1,hbody⟩
 have hβ1:G1.β (.o y)=G.β (.o y):=hE1.β y hyl
 obtain ⟨r1,e1,e2,e3,e4,e5,e6,hset⟩:=R1.setLoop hy1
 rw [hβ1] at e1 hset
 obtain ⟨R2,hE2⟩:=hset .busy L.pending
 refine ⟨_,run_beginRound e1 (by rw [e2,hst]),?_⟩
 have hL:({ L with st := .busy,pending:=L.pending }:ALoop)={ L with st := .busy }:=rfl
 have hr1:({ r1 with state := .busy }:Loop)={ r1 with state := .busy,pending:=L.pending }:=by rw [<-e3]
 rw [hr1]
 refine wpIn_mono (hbody (some (G.β (.o y))) n G1 a1 _ hm1 R2) ?_
 have hE12:=hE1.trans (hE2 H.length)

 have fin : ∀ (jump:Option Code) (σ3:St) (G3:Gh) (a3:Act) (w3:World),Rel G3 σ3 a3 w3->Ext H.length G1 (w1.putObj (G.β (.o y)) (.loop { r1 with state := .busy,pending:=L.pending })) G3 w3->H.length<=G3.nh ->
   b=jump.isNone->σ3.heap[y]?=some (.loop { L with st := .busy })->(∃ junk,σ3.heap.set y (.loop { L with st:=if jump.isNone then .ready else .done,pending:=jump })=H'++junk) ->
   ∃ v w',(Instr.endRound (G.β (.o y)) jump).run P w3 = .ok v w' /\ ∃ v' G',Ending.returned v = .returned v'/\RepV G' w' .ret (.d (.bool b)) v'/\RelH G' H' w'/\Ext H.length G w G' w':=by
  intro jump σ3 G3 a3 w3 R3 hE3 hm3 hb hy3 ⟨junk,hjunk⟩
  have hβ3:G3.β (.o y)=G.β (.o y):=(hE3.β y hyl).trans hβ1
  obtain ⟨r3,f1,f2,f3,f4,f5,f6,hset3⟩:=R3.setLoop hy3
  rw [hβ3] at f1 hset3
  obtain ⟨R4,hE4⟩:=hset3 (if jump.isNone then .ready else .done) jump
  refine ⟨_,_,run_endRound jump f1,_,{ G3 with nh:=H'.length },rfl,?_,?_,?_⟩
  ·rw [hb];exact .d _ _ _ (.bool _)
  ·have hle:H'.length<=(σ3.heap.set y (.loop { L with st:=if jump.isNone then .ready else .done,pending:=jump })).length:=by rw [hjunk];simp
   have htake:(σ3.heap.set y (.loop { L with st:=if jump.isNone then .ready else .done,pending:=jump })).take H'.length=H':=by rw [hjunk];simp
   have:=R4.h.fewer (k:=H'.length) hle (by rw [htake];exact hin)
   rw [htake] at this
   exact this
  ·exact ((hE12.trans hE3).trans (hE4 H.length)).nh _
 rintro e a3 w3 ⟨σ3,G3,R3,hE3,hm3,hq⟩
 cases e with
 | normal =>
   obtain ⟨hb,h1,h2⟩:=hq
   obtain ⟨v,w',h3,h4⟩:=fin none σ3 G3 a3 w3 R3 hE3 hm3 hb h1 h2
   exact ⟨v,w',h3,h4⟩
 | ret =>
   obtain ⟨hb,h1,h2⟩:=hq
   obtain ⟨v,w',h3,h4⟩:=fin (some .ret) σ3 G3 a3 w3 R3 hE3 hm3 hb h1 h2
   exact ⟨v,w',h3,h4⟩
 | exit id =>
   obtain ⟨hb,h1,h2⟩:=hq
   obtain ⟨v,w',h3,h4⟩:=fin (some (.exit id)) σ3 G3 a3 w3 R3 hE3 hm3 hb h1 h2
   exact ⟨v,w',h3,h4⟩
 | goto l=>exact hq.elim
 | panic c=>exact hq.elim
 | outgrown=>exact hq.elim
theorem callable_run {P:Program} {f:FuncId} (hc:callable P f=true) (args:Array Value) (w:World):(callFunc f args).run P w = .ok (.enter f args) w:=by
 unfold callable at hc
 unfold callFunc
 simp only [Sem.run_bind,run_program,Result.andThen_ok]
 split at hc
 ·rename_i fn hfn'
  simp at hc
  rw [hfn']
  simp [hc.1,Option.isSome_iff_ne_none.1 hc.2]
 ·cases hc
def St.laid (σ:St) (ts:List Nat) (ps:Array Tmp) (assign body:Code):ALoop :=
 { st := .ready,pending:=none,env:=ts.map (fun t=>(t,(σ.get t).copy)),n:=σ.n,params:=ps,assign:=assign,body:=body }
theorem eget_laid (σ:St) : ∀ (ts:List Nat) (t:Nat),eget (ts.map (fun t=>(t,(σ.get t).copy))) t=(σ.get t).copy\/eget (ts.map (fun t=>(t,(σ.get t).copy))) t = .undef
 | [],t => .inr rfl
 | s::r,t=>by
   simp only [List.map_cons,eget]
   split
   ·rename_i h;subst h;exact .inl rfl
   ·exact eget_laid σ r t
theorem Rel.enterLoop {G:Gh} {σ:St} {a:Act} {w:World} (R:Rel G σ a w) (ts:List Nat) (ps:Array Tmp) (assign body:Code) (fn:FuncId) :
  ∃ G',Rel G' { σ with heap:=σ.heap++[.loop (σ.laid ts ps assign body)] } { a with defers:=[{ target := .collected w.heap.size,args := #[] }]++a.defers }
    ((w.alloc (.deferred (some []))).alloc (.loop { state := .ready,pending:=none,fn,tmps:=a.tmps,params:=ps,assign,body,defers:=w.heap.size })) /\
    G'.β (.o σ.heap.length)=w.heap.size+1 /\
    (∀ m,m<=G.nh->Ext m G w G' ((w.alloc (.deferred (some []))).alloc (.loop { state := .ready,pending:=none,fn,tmps:=a.tmps,params:=ps,assign,body,defers:=w.heap.size }))):=by
 let rec0:Loop:={ state := .ready,pending:=none,fn,tmps:=a.tmps,params:=ps,assign,body,defers:=w.heap.size }
 let w1:=(w.alloc (.deferred (some []))).alloc (.loop rec0)
 let G':Gh:={ ((G.own w.heap.size .df 0).own (w.heap.size+1) (.o G.nh) 0).at (.o G.nh) (w.heap.size+1) with nh:=G.nh+1 }
 have hsz:(w.alloc (.deferred (some []))).heap.size=w.heap.size+1:=by simp
 have hold : ∀ b,b<w.heap.size->w1.heap[b]?=w.heap[b]?:=fun b hb=>by
  rw [show w1=(w.alloc (.deferred (some []))).alloc (.loop rec0) from rfl,heap_alloc_lt (by omega),heap_alloc_lt hb]
 have hL:w1.heap[w.heap.size+1]?=some (.loop rec0):=by
  have:=heap_alloc_new (w:=w.alloc (.deferred (some []))) (o := .loop rec0)
  rwa [hsz] at this
 have hD:w1.heap[w.heap.size]?=some (.deferred (some [])):=by
  rw [show w1=(w.alloc (.deferred (some []))).alloc (.loop rec0) from rfl,heap_alloc_lt (by omega),heap_alloc_new]
 have hOold : ∀ b x f,G.O b=some (x,f)->G'.O b=some (x,f):=by
  intro b x f h
  have:=(R.h.disj b x f h).1
  simp [G',Gh.own,Gh.at,Nat.ne_of_lt this,show b≠w.heap.size+1 by omega,h]
 have hβold : ∀ i,i<G.nh->G'.β (.o i)=G.β (.o i):=by
  intro i hi
  simp [G',Gh.own,Gh.at,Nat.ne_of_lt hi]
 have hpr:Pres G G' w w1 (fun _=>True) :=
  ⟨KLe.refl _,fun b x f _ h=>⟨hOold b x f h,hold b (R.h.disj b x f h).1⟩,hβold,Nat.le_succ _⟩
 have hkn : ∀ b j,w.heap.size<=b->G.K ⟨b,j,none⟩=none:=by
  intro b j hb
  cases hK:G.K ⟨b,j,none⟩ with
  | none=>rfl
  | some v=>have:=World.block_lt_of_cell? w _ (R.h.kept _ _ hK);simp at this;omega
 have hslots : ∀ t,RepV G' w1 (.s t) (σ.get t) (a.tmps.getD t Go.undef):=fun t =>
  (R.slots t).pres R.h.sane hpr trivial (fun _ _ _=>by simp [G',Gh.own,Gh.at]) (fun _ _ _=>⟨by simp [G',Gh.own,Gh.at],fun _=>trivial⟩)
 have hnhl:σ.heap.length=G.nh:=R.h.nh
 refine ⟨G',⟨⟨⟨fun b x f h => ?_⟩,?_,fun i ob hob => ?_,fun x v h=>cell_alloc_old (cell_alloc_old (R.h.kept x v h)),fun b x f h => ?_⟩,R.size,hslots,R.places,?_⟩,?_,?_⟩
 ·simp only [G',Gh.own,Gh.at] at h
  split at h
  ·simp at h;rw [<-h.1];simp [Loc.root]
  ·split at h
   ·simp at h;rw [<-h.1];simp [Loc.root]
   ·exact R.h.sane.no b x f h
 ·simp [G',hnhl]
 ·rcases Nat.lt_or_ge i σ.heap.length with hi | hi
  ·simp only [zp7 hi] at hob
   exact (R.h.objs i ob hob).pres R.h.sane (by omega) hpr trivial (fun _=>trivial)
  ·have hi':i=G.nh:=by
    have:=(zp2.1 hob).1
    simp at this;omega
   subst hi'
   rw [<-hnhl] at hob
   simp at hob
   subst hob
   refine ⟨fn,a.tmps,w.heap.size,by simp [G',Gh.own,Gh.at],?_,R.size,fun t => ?_,fun t => ?_⟩
   ·have:G'.β (.o G.nh)=w.heap.size+1:=by simp [G',Gh.at]
    rw [this];exact hL
   ·rcases eget_laid σ ts t with h | h
    ·simp only [St.laid,h];exact (hslots t).copy _
    ·simp only [St.laid,h];exact .undef _ _
   ·rcases eget_laid σ ts t with h | h
    ·simp only [St.laid,h];exact AV.copy_free _
    ·simp only [St.laid,h];rfl
 ·simp only [G',Gh.own,Gh.at] at h ⊢
  split at h
  ·rename_i hb;subst hb;exact ⟨by simp,fun j _=>hkn _ _ (by omega)⟩
  ·split at h
   ·rename_i hb;subst hb;exact ⟨by simp;omega,fun j _=>hkn _ _ (by omega)⟩
   ·have:=R.h.disj b x f h
    exact ⟨by simp;omega,this.2⟩
 ·refine ⟨?_,fun d hd => ?_⟩
  ·simp only [List.cons_append,List.nil_append,List.map_cons,List.nodup_cons]
   refine ⟨fun hm => ?_,R.df.1⟩
   obtain ⟨x,hx,hxe⟩:=List.mem_map.1 hm
   obtain ⟨r0,rfl,h2,h3⟩:=R.df.2 x hx
   simp at hxe
   have:=(R.h.disj _ _ _ h2).1
   omega
  ·rcases List.mem_cons.1 hd with rfl | hd
   ·exact ⟨_,rfl,by simp [G',Gh.own,Gh.at],hD⟩
   ·obtain ⟨r0,h1,h2,h3⟩:=R.df.2 d hd
    exact ⟨r0,h1,hOold _ _ _ h2,(hold _ (R.h.disj _ _ _ h2).1).trans h3⟩
 ·rw [hnhl];simp [G',Gh.at]
 ·intro m hm
  exact ⟨KLe.refl _,fun x v h => .inl h,fun b hb h=>⟨hold b hb,by simp [G',Gh.own,Gh.at,Nat.ne_of_lt hb,show b≠w.heap.size+1 by omega,h]⟩,by simp;omega,fun i hi=>hβold i (by omega),rfl,rfl,fun a _=>(frozen?_alloc_new _ _ (fun _ _ _ e=>by cases e) a).trans (frozen?_alloc_new _ _ (fun _ _ _ e=>by cases e) a),rfl,Nat.le_refl _⟩
def AWpT.behind (P:Program) (m:Nat) (Q:Exit->St->Prop) (σ:St):Option Code->Prop
 | none=>Q .normal σ
 | some c=>AWpT P m c Q σ
theorem AWpT.rangeFunc {P:Program} {m:Nat} {Q:Exit->St->Prop} {σ:St} {t:Nat} {ps:Array Tmp} {assign body:Code} {f:FuncId} {as bs:List AV} (ts:List Nat) (hg:σ.get t = .func f as bs) (hm:m<=σ.heap.length)
  {H':List Obj} {r:AV} (hin:objsInb (σ.heap.length+1) (σ.heap++[.loop (σ.laid ts ps assign body)])=true) (hargs:inbL (σ.heap.length+1) (as++bs)=true)
  (_hfr:(as++bs).all AV.free=true) (hc:ACall P f (as++[.yield σ.heap.length]++bs) (σ.heap++[.loop (σ.laid ts ps assign body)]) r H')
  {st:LoopState} {pend:Option Code} (hst:st ≠ .busy) (hy:H'[σ.heap.length]?=some (.loop { σ.laid ts ps assign body with st:=st,pending:=pend }))
  (k:AWpT.behind P m Q { σ with heap:=H'.set σ.heap.length (.loop { σ.laid ts ps assign body with st := .exhausted,pending:=pend }) } pend):AWpT P m (.rangeFunc (.tmp t) ps assign body) Q σ:=by
 intro n G a w hm' R
 refine wpIn_rangeFunc fun fn _ => ?_
 obtain ⟨G1,R1,hβ,hE1⟩:=R.enterLoop ts ps assign body fn
 obtain ⟨hcb,hrl,hri,hin',hHH,hcc⟩:=hc
 have hrep:=R.slots t
 rw [hg] at hrep
 obtain ⟨va,vb,hx,ha,hb,h1,h2,hla,hlb⟩ : ∃ va vb:Array Value,a.eval (.tmp t) = .func (.func f) va vb/\va.size=as.length/\vb.size=bs.length /\
   (∀ (i:Nat) (hi:i<as.length),RepV G1 ((w.alloc (.deferred (some []))).alloc (.loop { state := .ready,pending:=none,fn,tmps:=a.tmps,params:=ps,assign,body,defers:=w.heap.size })) .no as[i] (va.getD i Go.undef)) /\
   (∀ (i:Nat) (hi:i<bs.length),RepV G1 ((w.alloc (.deferred (some []))).alloc (.loop { state := .ready,pending:=none,fn,tmps:=a.tmps,params:=ps,assign,body,defers:=w.heap.size })) .no bs[i] (vb.getD i Go.undef)) /\
   (∀ c∈as,c.isLocal=false) /\ ∀ c∈bs,c.isLocal=false:=by
  have hrep:=R1.slots t
  simp only [St.get] at hrep
  rw [show eget σ.env t = .func f as bs from hg] at hrep
  show ∃ va vb:Array Value,a.tmps.getD t Go.undef=_/\_
  have e:({ a with defers:=[{ target := .collected w.heap.size,args := #[] }]++a.defers }:Act).tmps=a.tmps:=rfl
  rw [e] at hrep
  generalize a.tmps.getD t Go.undef=v at hrep
  cases hrep with | func _ _ _ _ va vb ha hb h1 h2 h3 h4=>exact ⟨va,vb,rfl,ha,hb,h1,h2,h3,h4⟩
 refine ⟨w.heap.size+1,[{ target := .collected w.heap.size,args := #[] }],((w.alloc (.deferred (some []))).alloc (.loop { state := .ready,pending:=none,fn,tmps:=a.tmps,params:=ps,assign,body,defers:=w.heap.size })),{ target := .fn (.func f) vb,args:=va ++ #[.func (.yield (w.heap.size+1)) #[] #[]] },((w.alloc (.deferred (some []))).alloc (.loop { state := .ready,pending:=none,fn,tmps:=a.tmps,params:=ps,assign,body,defers:=w.heap.size })),f,va ++ #[.func (.yield (w.heap.size+1)) #[] #[]]++vb,((w.alloc (.deferred (some []))).alloc (.loop { state := .ready,pending:=none,fn,tmps:=a.tmps,params:=ps,assign,body,defers:=w.heap.size })),
  run_enterLoop_outer _ _ _ _ _,?_,fun _ _=>trivial,?_,fun h=>by simp [Wd] at h,?_⟩
 ·have e : ∀ x,a.eval (.const x)=x:=fun _=>rfl
  simp only [resolve,hx,Deferred.ofValue,Sem.run_bind,Sem.run_pure,Result.andThen_ok]
  simp [e]
 ·simp only [invoke]
  exact callable_run hcb _ _
 ·have hyv:(va ++ #[Value.func (.yield (w.heap.size+1)) #[] #[]]).size=(as++[AV.yield σ.heap.length]).length /\ ∀ (i:Nat) (hi:i<(as++[AV.yield σ.heap.length]).length),
    RepV G1 ((w.alloc (.deferred (some []))).alloc (.loop { state := .ready,pending:=none,fn,tmps:=a.tmps,params:=ps,assign,body,defers:=w.heap.size })) .no (as++[AV.yield σ.heap.length])[i] ((va ++ #[Value.func (.yield (w.heap.size+1)) #[] #[]]).getD i Go.undef):=rep_append ha (by rfl) h1 (fun i hi=>by
    have:i=0:=by simpa using hi
    subst this
    have:=RepV.yield (G:=G1) (w:=(w.alloc (.deferred (some []))).alloc (.loop { state := .ready,pending:=none,fn,tmps:=a.tmps,params:=ps,assign,body,defers:=w.heap.size })) .no σ.heap.length (by rw [<-R1.h.nh];simp)
    rw [hβ] at this
    exact this)
  obtain ⟨k3,k4⟩:=rep_append hyv.1 hb hyv.2 h2
  have RH:RelH G1 ((σ.heap++[.loop (σ.laid ts ps assign body)])++[]) ((w.alloc (.deferred (some []))).alloc (.loop { state := .ready,pending:=none,fn,tmps:=a.tmps,params:=ps,assign,body,defers:=w.heap.size })):=by rw [List.append_nil];exact R1.h
  have hlen1:(σ.heap++[Obj.loop (σ.laid ts ps assign body)]).length=σ.heap.length+1:=by simp
  have hRh:=RH.handed (by rw [hlen1];exact hin)
  have hsub:Sub G1 (G1.handed (σ.heap++[Obj.loop (σ.laid ts ps assign body)]).length) ((w.alloc (.deferred (some []))).alloc (.loop { state := .ready,pending:=none,fn,tmps:=a.tmps,params:=ps,assign,body,defers:=w.heap.size })) ((w.alloc (.deferred (some []))).alloc (.loop { state := .ready,pending:=none,fn,tmps:=a.tmps,params:=ps,assign,body,defers:=w.heap.size })) (fun ℓ=>ℓ = .no) (σ.heap++[Obj.loop (σ.laid ts ps assign body)]).length :=
   ⟨KLe.refl _,fun b ℓ f hl hO=>absurd (hl▸rfl) (R1.h.sane.no b ℓ f hO),fun _ _=>rfl,Nat.le_refl _⟩
  refine CallsIn.mono (hcc (n-1) (G1.handed (σ.heap++[Obj.loop (σ.laid ts ps assign body)]).length) ((w.alloc (.deferred (some []))).alloc (.loop { state := .ready,pending:=none,fn,tmps:=a.tmps,params:=ps,assign,body,defers:=w.heap.size })) _ k3 (fun i hi => ?_) hRh (fun b ℓ f hO => ?_)) ?_
  ·refine (k4 i hi).sub R1.h.sane hsub rfl ?_ ?_
   ·refine inbL_get ?_ i hi
    rw [hlen1]
    have inbL_app : ∀ {k:Nat} {A B:List AV},inbL k (A++B)=(inbL k A&&inbL k B):=by
     intro k A B
     induction A with
     | nil=>simp [inbL]
     | cons c A ih=>simp [inbL,ih,Bool.and_assoc]
    rw [inbL_app] at hargs
    simp at hargs
    rw [inbL_app,inbL_app]
    simp [hargs.1,hargs.2,inbL,AV.inb]
   ·have : ∀ c∈(as++[AV.yield σ.heap.length]++bs),c.isLocal=false:=by
     intro c hc
     simp at hc
     rcases hc with hc | rfl | hc
     ·exact hla c hc
     ·rfl
     ·exact hlb c hc
    exact this _ (zp6 _)
  ·have:=(handed_O hO).2
   cases ℓ <;> simp [objLoc] at this
   ·rename_i i;exact ⟨i,rfl⟩
   ·rename_i i j;exact ⟨i,rfl⟩
  ·rintro e w3 ⟨v,G3,rfl,hv,R3,hE3⟩
   obtain ⟨R4,hext⟩:=R1.backO (H:=σ.heap++[.loop (σ.laid ts ps assign body)]) (rest:=[]) (d:=none) (by simp) (.inl rfl) hHH R3 hE3 hin' hv hrl hri (fun x e=>by cases e)
   rw [List.append_nil] at R4
   have hyb:(G1.back G3 (σ.heap++[Obj.loop (σ.laid ts ps assign body)]).length H'.length 0 ([]:List Obj).length).β (.o σ.heap.length)=w.heap.size+1:=by
    rw [<-hβ]
    exact (hext (σ.heap.length+1) (by rw [<-R1.h.nh];simp)).β _ (Nat.lt_succ_self _)
   obtain ⟨rr,e1,e2,e3,e4,e5,e6,hset⟩:=R4.setLoop (i:=σ.heap.length) hy
   have hyb':(G1.back G3 (σ.heap++[Obj.loop (σ.laid ts ps assign body)]).length H'.length ((none:Option Nat).getD 0) ([]:List Obj).length).β (.o σ.heap.length)=w.heap.size+1:=hyb
   rw [hyb'] at e1 hset
   obtain ⟨R5,hE5⟩:=hset .exhausted pend
   have e3:rr.pending=pend:=e3
   have e2:rr.state=st:=e2
   have hrr:({ rr with state := .exhausted }:Loop)={ rr with state := .exhausted,pending:=pend }:=by rw [<-e3]
   have hend:=run_endLoop (P:=P) e1 (by rw [e2];exact hst)
   rw [hrr,e3] at hend
   have hEE:Ext m G w _ (w3.putObj (w.heap.size+1) (.loop { rr with state := .exhausted,pending:=pend })) :=
    ((hE1 m hm').trans (hext m (by rw [<-R1.h.nh];simp;omega))).trans (hE5 m)
   have hnh:m<=(G1.back G3 (σ.heap++[Obj.loop (σ.laid ts ps assign body)]).length H'.length ((none:Option Nat).getD 0) ([]:List Obj).length).nh:=by
    simp only [Gh.back]
    have:=(zp2.1 hy).1
    omega
   refine ⟨pend,_,hend,?_⟩
   cases pend with
   | none=>exact ⟨_,_,R5,hEE,hnh,k⟩
   | some c=>exact wpIn_mono (k n _ _ _ hnh R5) (fun e a' w' hp=>hp.ext hEE)
end Go.Am
