/- Own text: AmList. -/
import Derived.Test.YtalfdjihejohoaaAmCode
set_option linter.unusedSimpArgs false
set_option linter.unusedSectionVars false
namespace Go.Am
open Go
mutual
def AV.inb (m:Nat):AV->Bool
 | .ptr a _ | .map a | .mref a _ _ _ | .mcap a _ _ _ _ | .eptr a _ _ _ | .vptr a _ _ _ _ _ | .yield a=>decide (a<m)
 | .gref a _=>decide (a+2<m)
 | .func _ as bs=>inbL m as&&inbL m bs
 | .agg cs | .tuple cs | .lbox cs=>inbL m cs
 | _=>true
def inbL (m:Nat):List AV->Bool
 | []=>true
 | c::r=>c.inb m&&inbL m r
end
def Obj.inb (m:Nat):Obj->Bool
 | .cells cs=>inbL m cs
 | .loop L=>inbL m (L.env.map (·.2))
 | _=>true
theorem inbL_get {m:Nat} : ∀ {cs:List AV},inbL m cs=true -> ∀ (i:Nat) (hi:i<cs.length),cs[i].inb m=true
 | c::r,h,0,_=>by simp [inbL] at h;exact h.1
 | c::r,h,i+1,hi=>by simp [inbL] at h;exact inbL_get h.2 i (by simpa using hi)
theorem inbL_eget {m:Nat} : ∀ {e:List (Nat×AV)},inbL m (e.map (·.2))=true -> ∀ t,(eget e t).inb m=true
 | [],_,_=>rfl
 | (s,v)::r,h,t=>by
   simp [inbL] at h
   simp only [eget]
   split
   ·exact h.1
   ·exact inbL_eget (by simpa using h.2) t
structure Sub (G G':Gh) (w w':World) (S:Loc->Prop) (m:Nat):Prop where
 K:KLe G.K G'.K
 O : ∀ (b:Nat) (ℓ:Loc) (f:Nat),S ℓ->G.O b=some (ℓ,f)->G'.O b=some (ℓ,f)/\w'.heap[b]?=w.heap[b]?
 β : ∀ a,a<m->G'.β (.o a)=G.β (.o a)
 nh:m<=G'.nh
theorem RepV.sub {G G':Gh} {w w':World} (hG:Sane G) {m:Nat} {ℓ:Loc} {av:AV} {v:Value} (h:RepV G w ℓ av v) :
  ∀ {S:Loc->Prop},Sub G G' w w' S m->S ℓ->av.inb m=true->av.isLocal=false->RepV G' w' ℓ av v:=by
 have no : ∀ {S:Loc->Prop},Sub G G' w w' S m->Sub G G' w w' (· = .no) m:=fun hp =>
  ⟨hp.K,fun b ℓ f hr hO=>absurd (hr▸rfl) (hG.no b ℓ f hO),hp.β,hp.nh⟩
 induction h with
 | undef ℓ v=>exact fun _ _ _ _ => .undef ℓ v
 | abool ℓ b=>exact fun _ _ _ _ => .abool ℓ b
 | d ℓ x v h=>exact fun hp _ _ _ => .d ℓ x v (h.mono hp.K)
 | ptr ℓ a off ha=>intro S hp _ hb _;simp [AV.inb] at hb;rw [<-hp.β a hb];exact .ptr ℓ a off (Nat.lt_of_lt_of_le hb hp.nh)
 | nilptr ℓ=>exact fun _ _ _ _ => .nilptr ℓ
 | iptr ℓ cs b off vs hK h1 h=>exact fun hp _ _ _ => .iptr ℓ cs b off vs (fun j hj=>hp.K _ _ (hK j hj)) h1 (fun j hj=>(h j hj).mono hp.K)
 | own ℓ k l v h ht =>
   intro S hp hS _ _
   refine .own ℓ k l v (h.mono hp.K) ?_
   intro a n cap hv hn
   obtain ⟨f,c,e,h1,h2,h3,h4⟩:=ht a n cap hv hn
   obtain ⟨h5,h6⟩:=hp.O _ _ _ hS h1
   exact ⟨f,c,e,h5,h2,h6.trans h3,h4⟩
 | lim ℓ k l v h ht=>exact fun hp _ _ _ => .lim ℓ k l v (h.mono hp.K) ht
 | tail ℓ k l v h ht =>
   intro S hp hS _ _
   refine .tail ℓ k l v (h.mono hp.K) ?_
   intro a n cap hv hn
   obtain ⟨f,c,e,h1,h2,h3,h4⟩:=ht a n cap hv hn
   obtain ⟨h5,h6⟩:=hp.O _ _ _ hS h1
   exact ⟨f,c,e,h5,h2,h6.trans h3,h4⟩
 | func ℓ f as bs va vb ha hb _ _ hc hc' ih ih' =>
   intro S hp _ hbl _
   simp [AV.inb] at hbl
   exact .func ℓ f as bs va vb ha hb (fun i hi=>ih i hi (no hp) rfl (inbL_get hbl.1 i hi) (hc _ (zp6 hi))) (fun i hi=>ih' i hi (no hp) rfl (inbL_get hbl.2 i hi) (hc' _ (zp6 hi))) hc hc'
 | nilfunc ℓ=>exact fun _ _ _ _ => .nilfunc ℓ
 | yield ℓ l hl=>intro S hp _ hb _;simp [AV.inb] at hb;rw [<-hp.β l hb];exact .yield ℓ l (Nat.lt_of_lt_of_le hb hp.nh)
 | map ℓ a ha=>intro S hp _ hb _;simp [AV.inb] at hb;rw [<-hp.β a hb];exact .map ℓ a (Nat.lt_of_lt_of_le hb hp.nh)
 | nilmap ℓ=>exact fun _ _ _ _ => .nilmap ℓ
 | lbox t cs vs e hO hw hs _ hc ih=>intro S _ _ _ hl;simp [AV.isLocal] at hl
 | place ℓ r off=>intro S _ _ _ hl;simp [AV.isLocal] at hl
 | mref ℓ a k lo n b off cap ha h1 h2 h3 h4=>intro S hp _ hb _;simp [AV.inb] at hb;exact .mref ℓ a k lo n b off cap (Nat.lt_of_lt_of_le hb hp.nh) h1 h2 h3 (fun h=>by rw [hp.β a hb];exact h4 h)
 | mcap ℓ a k lo n c b off cap ha h1 h2 h3 h4 h5=>intro S hp _ hb _;simp [AV.inb] at hb;exact .mcap ℓ a k lo n c b off cap (Nat.lt_of_lt_of_le hb hp.nh) h1 h2 h3 h4 (fun h=>by rw [hp.β a hb];exact h5 h)
 | gref ℓ a k p ha hc hq=>intro S hp _ hb _;simp [AV.inb] at hb;rw [<-hp.β _ hb,<-hp.β _ (by omega:a+1<_)] at hc;rw [<-hp.β _ hb,<-hp.β _ (by omega:a+1<_)];exact .gref ℓ a k p (Nat.lt_of_lt_of_le hb hp.nh) hc (fun h=>by rw [hp.β _ (by omega:a<_)];exact hq (by rw [<-hp.β _ (by omega:a+1<_)];exact h))
 | fresh ℓ k l v h=>exact fun hp hS _ _ => .fresh ℓ k l v (h.mono hp.K (fun b hO=>hp.O b ℓ 0 hS hO))
 | junk ℓ v h=>exact fun _ _ _ _ => .junk ℓ v h
 | eptr ℓ a k i j ha hi=>intro S hp _ hb _;simp [AV.inb] at hb;rw [<-hp.β a hb];exact .eptr ℓ a k i j (Nat.lt_of_lt_of_le hb hp.nh) hi
 | vptr ℓ a k i j m z ha hi hz hm=>intro S hp _ hb _;simp [AV.inb] at hb;rw [<-hp.β a hb];exact .vptr ℓ a k i j m z (Nat.lt_of_lt_of_le hb hp.nh) hi hz hm
 | agg ℓ cs vs hs _ hc hf ih =>
   intro S hp _ hbl _
   simp [AV.inb] at hbl
   exact .agg ℓ cs vs hs (fun i hi=>ih i hi (no hp) rfl (inbL_get hbl i hi) (AV.isLocal_of_isCell (hc _ (zp6 hi)))) hc hf
 | tuple ℓ cs vs hs _ hc ih =>
   intro S hp _ hbl _
   simp [AV.inb] at hbl
   exact .tuple ℓ cs vs hs (fun i hi=>ih i hi (no hp) rfl (inbL_get hbl i hi) (hc _ (zp6 hi))) hc
def Obj.okAt (m i:Nat) (ob:Obj):Prop:=ob.inb m=true /\ ∀ k l,ob = .gro k l->i+2<m
theorem RepObj.sub {G G':Gh} {w w':World} (hG:Sane G) {i m:Nat} {ob:Obj} (h:RepObj G w i ob) (hi:i<m) {S:Loc->Prop} (hp:Sub G G' w w' S m) (hS:S (.o i)) (hSc : ∀ j,S (.oc i j)) (hb:ob.okAt m i):RepObj G' w' i ob:=by
 obtain ⟨hb,hbg⟩:=hb
 cases ob with
 | cells cs =>
   obtain ⟨vs,e,h1,h2,h3,h4,h5⟩:=h
   obtain ⟨h6,h7⟩:=hp.O _ _ _ hS h1
   have hβ:=hp.β i hi
   rw [<-hβ] at h2 h6 h7
   exact ⟨vs,e,h6,h7.trans h2,h3,fun j hj=>(h4 j hj).sub hG hp (hSc j) (inbL_get hb j hj) (AV.isLocal_of_isCell (h5 _ (zp6 hj))),h5⟩
 | arr k l =>
   obtain ⟨vs,e,h1,h2,h3,h4,h8,h5⟩:=h
   obtain ⟨h6,h7⟩:=hp.O _ _ _ hS h1
   have hβ:=hp.β i hi
   rw [<-hβ] at h2 h6 h7
   exact ⟨vs,e,h6,h7.trans h2,h3,h4,h8,fun j hj=>(h5 j hj).mono hp.K⟩
 | map agg ks es =>
   obtain ⟨ms,clock,h1,h2,h3⟩:=h
   obtain ⟨h6,h7⟩:=hp.O _ _ _ hS h1
   have hβ:=hp.β i hi
   rw [<-hβ] at h2 h6 h7
   exact ⟨ms,clock,h6,h7.trans h2,h3.1.mono hp.K,h3.2⟩
 | loop L =>
   obtain ⟨fn,tmps,D,h1,h2,h3,h4,h5⟩:=h
   obtain ⟨h6,h7⟩:=hp.O _ _ _ hS h1
   have hβ:=hp.β i hi
   rw [<-hβ] at h2 h6 h7
   refine ⟨fn,tmps,D,h6,h7.trans h2,h3,fun t => ?_,h5⟩
   have hl:(eget L.env t).isLocal=false:=by
    have:=h5 t
    generalize eget L.env t=c at this
    cases c <;> first | rfl | (simp [AV.free] at this)
   exact (h4 t).sub hG (⟨hp.K,fun b ℓ f hr hO=>absurd (hr▸rfl) (hG.no b ℓ f hO),hp.β,hp.nh⟩:Sub G G' w w' (· = .no) m) rfl (inbL_eget hb t) hl
 | gro k l =>
   obtain ⟨g0,g1,g2,g3,g4⟩:=h
   have g0':=hbg k l rfl
   have b0:=hp.β i hi
   have b1:=hp.β (i+1) (by omega)
   have b2:=hp.β (i+2) g0'
   refine ⟨Nat.lt_of_lt_of_le g0' hp.nh,by rw [b2];exact g1,by rw [b1];exact g2,g3,fun hc => ?_⟩
   rw [b1] at hc
   obtain ⟨vs,e,h1,h2,h3,h8,h5⟩:=g4 hc
   obtain ⟨h6,h7⟩:=hp.O _ _ _ hS h1
   rw [<-b0] at h2 h6 h7
   exact ⟨vs,e,h6,h7.trans h2,by rw [b1];exact h3,h8,fun j hj=>(h5 j hj).mono hp.K⟩
 | dead=>trivial
def objsInb (m:Nat):List Obj->Bool
 | []=>true
 | o::r=>o.inb m&&(match o with | .gro .. => Nat.ble 2 r.length | _=>true)&&objsInb m r
def callable (P:Program) (f:FuncId):Bool :=
 match P.funcs[f]? with
 | some fn=>fn.name != "runtime.NumGoroutine" && fn.body.isSome
 | none=>false
def ACall (P:Program) (f:FuncId) (args:List AV) (H:List Obj) (r:AV) (H':List Obj):Prop :=
 callable P f=true/\r.isLocal=false/\r.inb H'.length=true/\objsInb H'.length H'=true/\H.length<=H'.length /\ ∀ (n:Nat) (G:Gh) (w:World) (vs:Array Value),vs.size=args.length->(∀ (i:Nat) (hi:i<args.length),RepV G w .no args[i] (vs.getD i Go.undef))->RelH G H w ->
  (∀ b ℓ f,G.O b=some (ℓ,f) -> ∃ i,ℓ.root = .o i) ->
  CallsIn (Wd none) n P f vs w (fun e w' => ∃ v G',e = .returned v/\RepV G' w' .ret r v/\RelH G' H' w'/\Ext H.length G w G' w')
def envOf:Nat->List AV->List (Nat×AV)
 | _,[]=>[]
 | i,v::r=>(i,v)::envOf (i+1) r
theorem eget_envOf : ∀ (args:List AV) (i t:Nat),eget (envOf i args) t=if i<=t/\t<i+args.length then args.getD (t-i) .undef else .undef
 | [],i,t=>by simp [envOf,eget]
 | v::r,i,t=>by
   simp only [envOf,eget,List.length_cons]
   by_cases h:i=t
   ·subst h;simp
   ·rw [if_neg h,eget_envOf r (i+1) t]
    by_cases h2:i+1<=t/\t<i+1+r.length
    ·rw [if_pos h2,if_pos (by omega),show t-i=(t-(i+1))+1 by omega];simp
    ·rw [if_neg h2,if_neg (by omega)]
def resOne (T:Types) (σ:St) (own:Bool):ResultVar->Option AV
 | .tmp t=>match σ.get t with
   | .lbox _ | .place .. | .fresh .. => none
   | .lim k l=>some (.d (.list k l))
   | .tail k l=>some (.d (.list k l))
   | v=>some (if own then v else v.copy)
 | .cell t ty=>match σ.get t,T ty with
   | .lbox cs,some td=>readAt td cs 0
   | .ptr i off,some td=>match σ.heap[i]? with
     | some (.cells cs)=>readAt td cs off
     | some (.arr _ l)=>if off=0/\td.isAgg=true/\l.length=td.size/\l.all D.isOne=true then some (.d (.agg l)) else none
     | _=>none
   | _,_=>none
def resAV (T:Types) (σ:St):List ResultVar->Option AV
 | [x]=>resOne T σ true x
 | l=>(l.mapM (resOne T σ false)).map .tuple
def FnPost (T:Types) (fn:Func) (m:Nat) (r:AV) (H':List Obj):Exit->St->Prop
 | .normal,σ | .ret,σ=>resAV T σ fn.results.toList=some r/\r.inb H'.length=true/\objsInb H'.length H'=true/\m<=H'.length /\ ∃ junk,σ.heap=H'++junk
 | _,_=>False
def objLoc (m:Nat):Loc->Bool
 | .o i | .oc i _=>decide (i<m)
 | _=>false
def Gh.handed (G:Gh) (m:Nat):Gh :=
 { K:=G.K,β:=G.β,nh:=m
   O:=fun b=>match G.O b with
    | some (ℓ,f)=>if objLoc m ℓ then some (ℓ,f) else none
    | none=>none }
theorem handed_O {G:Gh} {m b:Nat} {ℓ:Loc} {f:Nat} (h:(G.handed m).O b=some (ℓ,f)):G.O b=some (ℓ,f)/\objLoc m ℓ=true:=by
 simp only [Gh.handed] at h
 split at h
 ·split at h
  ·rename_i ℓ' f' hO hl;simp at h;obtain ⟨rfl,rfl⟩:=h;exact ⟨hO,hl⟩
  ·cases h
 ·cases h
theorem handed_none {G:Gh} {m b:Nat} (h : ∀ ℓ f,G.O b=some (ℓ,f)->objLoc m ℓ=false):(G.handed m).O b=none:=by
 simp only [Gh.handed]
 split
 ·rename_i ℓ f hO;rw [h ℓ f hO];rfl
 ·rfl
theorem objsInb_inb {m:Nat} : ∀ {H:List Obj},objsInb m H=true -> ∀ (i:Nat) (ob:Obj),H[i]?=some ob->ob.inb m=true
 | o::r,h,0,ob,e=>by simp only [objsInb,zp4] at h;simp at e;subst e;exact h.1.1
 | o::r,h,i+1,ob,e=>by simp only [objsInb,zp4] at h;exact objsInb_inb h.2 i ob (by simpa using e)
theorem objsInb_gro {m:Nat} : ∀ {H:List Obj},objsInb m H=true -> ∀ (i:Nat) (k:Nat) (l:List D),H[i]?=some (.gro k l)->i+2<H.length
 | o::r,h,0,k,l,e=>by simp at e;subst e;simp only [objsInb,zp4] at h;have:=Nat.le_of_ble_eq_true h.1.2;simp;omega
 | o::r,h,i+1,k,l,e=>by simp only [objsInb,zp4] at h;have:=objsInb_gro h.2 i k l (by simpa using e);simp;omega
theorem objsInb_get {m:Nat} {H:List Obj} (h:objsInb m H=true) (i:Nat) (ob:Obj) (e:H[i]?=some ob) (hl:H.length<=m:=by first | exact Nat.le_refl _ | (simp;done) | (simp;omega) | omega):ob.okAt m i :=
 ⟨objsInb_inb h i ob e,fun k l he=>Nat.lt_of_lt_of_le (objsInb_gro h i k l (by rw [e,he])) hl⟩
theorem RelH.handed {G:Gh} {H rest:List Obj} {w:World} (R:RelH G (H++rest) w) (hc:objsInb H.length H=true):RelH (G.handed H.length) H w:=by
 have hm:H.length<=G.nh:=by rw [<-R.nh];simp
 have hsub:Sub G (G.handed H.length) w w (fun ℓ=>objLoc H.length ℓ=true) H.length :=
  ⟨KLe.refl _,fun b ℓ f hl hO=>⟨by simp [Gh.handed,hO,hl],rfl⟩,fun _ _=>rfl,Nat.le_refl _⟩
 refine ⟨⟨fun b ℓ f h=>R.sane.no b ℓ f (handed_O h).1⟩,rfl,fun i ob hob => ?_,R.kept,fun b ℓ f h=>R.disj b ℓ f (handed_O h).1⟩
 have hi:i<H.length:=(zp2.1 hob).1
 exact (R.objs i ob (by rw [zp7 hi];exact hob)).sub R.sane hi hsub (by simp [objLoc,hi]) (fun j=>by simp [objLoc,hi]) (objsInb_get hc i ob hob)
def Gh.foreign (G:Gh) (m b:Nat):Bool :=
 match G.O b with
 | some (ℓ,_) => !objLoc m ℓ
 | none=>false
def Gh.back (G G3:Gh) (m k d q:Nat):Gh :=
 { K:=G3.K
   O:=fun b=>if G.foreign m b then G.O b else
    match G3.O b with
    | some (ℓ,f)=>if objLoc k ℓ then some (ℓ,f) else if ℓ = .ret then some (.s d,f) else none
    | none=>none
   β:=fun
    | .o i=>if i<k then G3.β (.o i) else G.β (.o i)
    | r=>G.β r
   nh:=k+q }
theorem back_O {G G3:Gh} {m k d q b:Nat} {ℓ:Loc} {f:Nat} (h:(G.back G3 m k d q).O b=some (ℓ,f)) :
  (G.foreign m b=true/\G.O b=some (ℓ,f))\/(G.foreign m b=false /\ ∃ ℓ',G3.O b=some (ℓ',f)/\((objLoc k ℓ'=true/\ℓ=ℓ')\/(ℓ' = .ret/\ℓ = .s d))):=by
 simp only [Gh.back] at h
 split at h
 ·rename_i hf;exact .inl ⟨hf,h⟩
 ·rename_i hf
  refine .inr ⟨by simpa using hf,?_⟩
  split at h
  ·rename_i ℓ' f' hO
   split at h
   ·rename_i hl;simp at h;obtain ⟨rfl,rfl⟩:=h;exact ⟨_,hO,.inl ⟨hl,rfl⟩⟩
   ·split at h
    ·rename_i hr;simp at h;obtain ⟨rfl,rfl⟩:=h;exact ⟨_,hO,.inr ⟨hr,rfl⟩⟩
    ·cases h
  ·cases h
theorem Rel.backO {G G3:Gh} {σ:St} {a:Act} {w w':World} (R:Rel G σ a w) {H rest H':List Obj} (hH:σ.heap=H++rest) (hr:rest=[]\/H'.length=H.length) (hHH:H.length<=H'.length)
  (R3:RelH G3 H' w') (hE:Ext H.length (G.handed H.length) w G3 w') (hin:objsInb H'.length H'=true) {d:Option Nat} {r:AV} {v:Value} (hv:RepV G3 w' .ret r v) (hrl:r.isLocal=false) (hri:r.inb H'.length=true)
  (hd : ∀ x,d=some x->x<σ.n/\(σ.get x).isBox=false) :
  Rel (G.back G3 H.length H'.length (d.getD 0) rest.length) { σ with env:=(match d with | some x=>eset σ.env x r | none=>σ.env),heap:=H'++rest } (a.put d v) w' /\
   ∀ m,m<=G.nh->Ext m G w (G.back G3 H.length H'.length (d.getD 0) rest.length) w':=by
 let Gf:=G.back G3 H.length H'.length (d.getD 0) rest.length
 have hnh:G.nh=H.length+rest.length:=by rw [<-R.h.nh,hH];simp

 have hfor : ∀ b ℓ f,G.O b=some (ℓ,f)->objLoc H.length ℓ=false->Gf.O b=some (ℓ,f)/\w'.heap[b]?=w.heap[b]?/\G3.O b=none:=by
  intro b ℓ f hO hl
  have hc:(G.handed H.length).O b=none:=handed_none fun ℓ' f' h'=>by rw [hO] at h';simp at h';obtain ⟨rfl,_⟩:=h';exact hl
  obtain ⟨h1,h2⟩:=hE.others b (R.h.disj b ℓ f hO).1 hc
  refine ⟨?_,h1,h2⟩
  have:G.foreign H.length b=true:=by simp [Gh.foreign,hO,hl]
  simp only [Gf,Gh.back,this,if_true,hO]

 have hback : ∀ b ℓ f,G3.O b=some (ℓ,f)->(objLoc H'.length ℓ=true->Gf.O b=some (ℓ,f))/\(ℓ = .ret->Gf.O b=some (.s (d.getD 0),f)):=by
  intro b ℓ f hO
  have hnf:G.foreign H.length b=false:=by
   cases hG:G.O b with
   | none=>simp [Gh.foreign,hG]
   | some p =>
     obtain ⟨ℓ',f'⟩:=p
     cases hl:objLoc H.length ℓ' with
     | true=>simp [Gh.foreign,hG,hl]
     | false=>rw [(hfor b ℓ' f' hG hl).2.2] at hO;cases hO
  constructor
  ·intro hl;simp only [Gf,Gh.back,hnf,hO];simp [hl]
  ·rintro rfl;simp only [Gf,Gh.back,hnf,hO];simp [objLoc]
 have hβ : ∀ i,i<G.nh->Gf.β (.o i)=G.β (.o i):=by
  intro i hi
  simp only [Gf,Gh.back]
  split
  ·rename_i hk
   rcases Nat.lt_or_ge i H.length with h | h
   ·exact hE.β i h
   ·rcases hr with rfl | hr
    ·simp at hnh;omega
    ·omega
  ·rfl
 have hp1:Pres G Gf w w' (fun ℓ=>objLoc H.length ℓ=false) :=
  ⟨hE.K,fun b ℓ f hl hO=>⟨(hfor b ℓ f hO hl).1,(hfor b ℓ f hO hl).2.1⟩,hβ,by simp only [Gf,Gh.back];omega⟩
 have hp2:Sub G3 Gf w' w' (fun ℓ=>objLoc H'.length ℓ=true) H'.length :=
  ⟨KLe.refl _,fun b ℓ f hl hO=>⟨(hback b ℓ f hO).1 hl,rfl⟩,fun i hi=>by simp [Gf,Gh.back,hi],by simp [Gf,Gh.back]⟩
 have hslots : ∀ t,RepV Gf w' (.s t) (σ.get t) (a.tmps.getD t Go.undef):=fun t=>(R.slots t).pres R.h.sane hp1 rfl (fun _ _ _=>rfl) (fun _ _ _=>⟨rfl,fun j=>rfl⟩)
 refine ⟨⟨⟨⟨fun b ℓ f h => ?_⟩,by simp [Gf,Gh.back],fun i ob hob => ?_,R3.kept,fun b ℓ f h => ?_⟩,by cases d <;> simpa [Act.put] using R.size,?_,?_,?_⟩,fun m hm => ?_⟩
 ·rcases back_O h with ⟨_,hO⟩ | ⟨_,ℓ',hO,⟨hl,rfl⟩ | ⟨rfl,rfl⟩⟩
  ·exact R.h.sane.no b ℓ f hO
  ·exact R3.sane.no b ℓ f hO
  ·simp [Loc.root]
 ·rcases Nat.lt_or_ge i H'.length with hi | hi
  ·simp only [zp7 hi] at hob
   exact (R3.objs i ob hob).sub R3.sane hi hp2 (by simp [objLoc,hi]) (fun j=>by simp [objLoc,hi]) (objsInb_get hin i ob hob)
  ·simp only [zp8 hi] at hob
   have hlen:H'.length=H.length:=by
    rcases hr with rfl | hr
    ·simp at hob
    ·exact hr
   have hob':σ.heap[i]?=some ob:=by rw [hH,zp8 (by omega),<-hlen];exact hob
   exact (R.h.objs i ob hob').pres R.h.sane (by rw [<-R.h.nh];exact (zp2.1 hob').1) hp1 (by simp [objLoc];omega) (fun j=>by simp [objLoc];omega)
 ·rcases back_O h with ⟨hf,hO⟩ | ⟨_,ℓ',hO,_⟩
  ·obtain ⟨h1,h2⟩:=R.h.disj b ℓ f hO
   refine ⟨Nat.lt_of_lt_of_le h1 hE.size,fun j hj => ?_⟩
   have hl:objLoc H.length ℓ=false:=by simpa [Gh.foreign,hO] using hf
   cases hK:Gf.K ⟨b,j,none⟩ with
   | none=>rfl
   | some x =>
     rcases hE.new ⟨b,j,none⟩ x hK with h3 | ⟨p,h3⟩ | h3
     ·rw [show (G.handed H.length).K=G.K from rfl,h2 j hj] at h3;cases h3
     ·obtain ⟨ℓ',f'⟩:=p
      obtain ⟨h4,h5⟩:=handed_O h3
      rw [hO] at h4;simp at h4;obtain ⟨rfl,_⟩:=h4
      rw [hl] at h5;cases h5
     ·simp at h3;omega
  ·exact R3.disj b ℓ' f hO
 ·intro t
  cases d with
  | none=>exact hslots t
  | some d =>
  obtain ⟨hlt,hb⟩:=hd d rfl
  have hd':d<a.tmps.size:=by rw [R.size];exact hlt
  simp only [Act.put,getD_set _ _ _ _ hd',St.get,eget_eset]
  split
  ·rename_i e;subst e
   by_cases hfree:r.free=true
   ·exact ((hv.anywhere hfree .no).sub R3.sane (⟨KLe.refl _,fun b ℓ f hl hO=>absurd (hl▸rfl) (R3.sane.no b ℓ f hO),hp2.β,hp2.nh⟩:Sub G3 Gf w' w' (fun ℓ=>ℓ = .no) H'.length) rfl hri hrl).anywhere hfree _
   ·cases r <;> first | (simp [AV.free] at hfree;done) | (simp [AV.isLocal] at hrl;done) | skip
    ·cases hv with | own _ k l v h ht =>
     refine .own _ _ _ _ h ?_
     intro a' n cap e hn
     obtain ⟨f,c,e',h1,h2,h3,h4⟩:=ht a' n cap e hn
     exact ⟨f,c,e',(hback _ _ _ h1).2 rfl,h2,h3,h4⟩
    ·cases hv with | lim _ k l v h ht =>
     exact .lim _ _ _ _ h ht
    ·cases hv with | tail _ k l v h ht =>
     refine .tail _ _ _ _ h ?_
     intro a' n cap e hn
     obtain ⟨f,c,e',h1,h2,h3,h4⟩:=ht a' n cap e hn
     exact ⟨f,c,e',(hback _ _ _ h1).2 rfl,h2,h3,h4⟩
    ·cases hv with | fresh _ k l v h =>
     exact .fresh _ _ _ _ (h.mono (KLe.refl _) (fun b hO=>⟨(hback _ _ _ hO).2 rfl,rfl⟩))
  ·exact hslots t
 ·intro t r' off ht
  cases d with
  | none=>exact R.places t r' off ht
  | some d =>
  obtain ⟨hlt,hb⟩:=hd d rfl
  simp only [St.get,eget_eset] at ht ⊢
  split at ht
  ·subst ht;simp [AV.isLocal] at hrl
  ·obtain ⟨cs,hcs⟩:=R.places t r' off ht
   refine ⟨cs,?_⟩
   split
   ·rename_i e;subst e;rw [hcs] at hb;simp [AV.isBox] at hb
   ·exact hcs
 ·have hdf:(a.put d v).defers=a.defers:=by cases d <;> rfl
  rw [hdf]
  refine ⟨R.df.1,fun x hx => ?_⟩
  obtain ⟨r0,h1,h2,h3⟩:=R.df.2 x hx
  obtain ⟨h4,h5,_⟩:=hfor _ _ _ h2 rfl
  exact ⟨r0,h1,h4,h5.trans h3⟩
 ·refine ⟨hE.K,fun x v hx => ?_,fun b hb hO => ?_,hE.size,fun i hi=>hβ i (by omega),hE.io⟩
  ·rcases hE.new x v hx with h | ⟨p,h⟩ | h
   ·exact .inl h
   ·obtain ⟨ℓ,f⟩:=p;exact .inr (.inl ⟨_,(handed_O h).1⟩)
   ·exact .inr (.inr h)
  ·have hc:(G.handed H.length).O b=none:=handed_none fun ℓ f h=>by rw [hO] at h;cases h
   obtain ⟨h1,h2⟩:=hE.others b hb hc
   refine ⟨h1,?_⟩
   have:G.foreign H.length b=false:=by simp [Gh.foreign,hO]
   simp [Gh.back,this,h2]
theorem Rel.back {G G3:Gh} {σ:St} {a:Act} {w w':World} (R:Rel G σ a w) {H rest H':List Obj} (hH:σ.heap=H++rest) (hr:rest=[]\/H'.length=H.length) (hHH:H.length<=H'.length)
  (R3:RelH G3 H' w') (hE:Ext H.length (G.handed H.length) w G3 w') (hin:objsInb H'.length H'=true) {d:Nat} {r:AV} {v:Value} (hv:RepV G3 w' .ret r v) (hrl:r.isLocal=false) (hri:r.inb H'.length=true)
  (hlt:d<σ.n) (hb:(σ.get d).isBox=false) :
  Rel (G.back G3 H.length H'.length d rest.length) { σ with env:=eset σ.env d r,heap:=H'++rest } (a.put (some d) v) w' /\
   ∀ m,m<=G.nh->Ext m G w (G.back G3 H.length H'.length d rest.length) w':=by
 have:=R.backO (d:=some d) hH hr hHH R3 hE hin hv hrl hri (fun x e=>by cases e;exact ⟨hlt,hb⟩)
 exact this
theorem callsIn_wd {r:Option Nat} {n:Nat} {P:Program} {f:FuncId} {args:Array Value} {w:World} {R:Ending->World->Prop} (h:CallsIn (Wd none) n P f args w R):CallsIn (Wd r) n P f args w R:=h
def callOf (T:Types) (σ:St) (o:Oper):Option (FuncId×List AV) :=
 match o.op with
 | .call { callee := .value x,args,argTypes } =>
   match (match x with | .func f=>some (f,[],[]) | .tmp t=>(match σ.get t with | .func f as bs=>some (f,as,bs) | _=>none) | _=>none),((args.toList.zip argTypes.toList).mapM fun p=>opv T σ.get p.2 p.1) with
   | some (f,as,bs),some vs=>if args.size=argTypes.size then some (f,as++vs.map AV.copy++bs) else none
   | _,_=>none
 | _=>none
theorem mapM_some {α β:Type} {f:α->Option β} : ∀ {xs:List α} {ys:List β},xs.mapM f=some ys->ys.length=xs.length /\ ∀ (i:Nat) (hi:i<xs.length) (hi':i<ys.length),f xs[i]=some ys[i]
 | [],ys,h=>by simp at h;subst h;exact ⟨rfl,fun i hi=>by simp at hi⟩
 | x::r,ys,h=>by
   simp only [List.mapM_cons,Option.bind_eq_bind,Option.bind_eq_some_iff,Option.pure_def,zp3] at h
   obtain ⟨v,hv,l',hl',rfl⟩:=h
   obtain ⟨e1,e2⟩:=mapM_some hl'
   refine ⟨by simp [e1],fun i hi hi' => ?_⟩
   cases i with
   | zero=>exact hv
   | succ i=>exact e2 i (by simpa using hi) (by simpa using hi')
theorem rep_append {G:Gh} {w:World} {A B:List AV} {va vb:Array Value} (ha:va.size=A.length) (hb:vb.size=B.length) (h1 : ∀ (i:Nat) (hi:i<A.length),RepV G w .no A[i] (va.getD i Go.undef))
  (h2 : ∀ (i:Nat) (hi:i<B.length),RepV G w .no B[i] (vb.getD i Go.undef)):(va++vb).size=(A++B).length /\ ∀ (i:Nat) (hi:i<(A++B).length),RepV G w .no (A++B)[i] ((va++vb).getD i Go.undef):=by
 refine ⟨by simp [ha,hb],fun i hi => ?_⟩
 simp at hi
 by_cases c:i<A.length
 ·rw [List.getElem_append_left c]
  simpa [zp5,Array.getElem?_append_left (show i<va.size by omega)] using h1 i c
 ·rw [List.getElem_append_right (by omega)]
  have:=h2 (i-A.length) (by omega)
  simpa [zp5,Array.getElem?_append_right (show va.size<=i by omega),ha] using this
theorem less_get (σ:St):Less σ.get σ:=fun _ => .inl rfl
section
variable {P:Program} {T:Types} {m:Nat} {Q:Exit->St->Prop} {σ:St} {ops:Array Oper} {o:Oper} {l:List Oper}
theorem callOf_ok {f:FuncId} {args:List AV} (h:callOf T σ o=some (f,args)) (hc:callable P f=true) {G:Gh} {a:Act} {w:World} (R:Rel G σ a w) :
  (∀ c,o.op ≠ .defer c) /\ ∃ vs:Array Value,(execOp a.eval o).run P w = .ok (.enter f vs) w/\vs.size=args.length /\ ∀ (i:Nat) (hi:i<args.length),RepV G w .no args[i] (vs.getD i Go.undef):=by
 unfold callOf at h
 split at h
 ·rename_i x xs ts hop
  refine ⟨by simp [hop],?_⟩
  split at h
  ·rename_i f' as bs vs hfn hvs
   split at h
   ·rename_i hsz
    simp at h
    obtain ⟨rfl,rfl⟩:=h
    obtain ⟨e1,e2⟩:=mapM_some hvs

    have hfv : ∃ va vb:Array Value,a.eval x = .func (.func f') va vb/\va.size=as.length/\vb.size=bs.length /\
      (∀ (i:Nat) (hi:i<as.length),RepV G w .no as[i] (va.getD i Go.undef)) /\ ∀ (i:Nat) (hi:i<bs.length),RepV G w .no bs[i] (vb.getD i Go.undef):=by
     cases x with
     | func q =>
       simp at hfn
       obtain ⟨rfl,rfl,rfl⟩:=hfn
       exact ⟨#[],#[],rfl,rfl,rfl,fun i hi=>by simp at hi,fun i hi=>by simp at hi⟩
     | tmp t =>
       simp only at hfn
       split at hfn
       ·rename_i f'' as' bs' hg
        simp at hfn
        obtain ⟨rfl,rfl,rfl⟩:=hfn
        have hrep:=R.slots t
        rw [hg] at hrep
        show ∃ va vb:Array Value,a.tmps.getD t Go.undef=_/\_
        generalize a.tmps.getD t Go.undef=v at hrep
        cases hrep with | func _ _ _ _ va vb ha hb h1 h2 _ _=>exact ⟨va,vb,rfl,ha,hb,h1,h2⟩
       ·cases hfn
     | _=>simp at hfn
    obtain ⟨va,vb,hx,ha,hb,h1,h2⟩:=hfv
    have hcall:(callFunc f' (va++xs.map a.eval++vb)).run P w = .ok (.enter f' (va++xs.map a.eval++vb)) w:=by
     unfold callable at hc
     unfold callFunc
     simp only [Sem.run_bind,run_program,Result.andThen_ok]
     split at hc
     ·rename_i fn hfn'
      simp at hc
      rw [hfn']
      simp [hc.1,Option.isSome_iff_ne_none.1 hc.2]
     ·cases hc
    have hlv:(xs.map a.eval).size=(vs.map AV.copy).length:=by simp [e1];omega
    have hmid : ∀ (i:Nat) (hi:i<(vs.map AV.copy).length),RepV G w .no (vs.map AV.copy)[i] ((xs.map a.eval).getD i Go.undef):=by
     intro i hi
     simp at hi
     have hz:i<(xs.toList.zip ts.toList).length:=by omega
     have:=(opv_ok (less_get σ) R (e2 i hz hi) .no).1.copy .no
     have hxs:i<xs.size:=by simp at hz;omega
     simpa [zp5,hxs] using this
    obtain ⟨k1,k2⟩:=rep_append ha hlv h1 hmid
    obtain ⟨k3,k4⟩:=rep_append k1 hb k2 h2
    have hrun:(execOp a.eval o).run P w = .ok (.enter f' (va++xs.map a.eval++vb)) w:=by
     simp only [execOp,hop,Sem.run_bind,resolve,hx,Deferred.ofValue,Sem.run_pure,Result.andThen_ok,invoke]
     exact hcall
    refine ⟨va++xs.map a.eval++vb,hrun,?_⟩
    rw [List.append_assoc] at k3 k4
    exact ⟨k3,k4⟩
   ·cases h
  ·cases h
 ·cases h
theorem AOps.call {f:FuncId} {args:List AV} {H rest H':List Obj} {r:AV} {d:Nat} (hw:wantA ops.toList σ o=some true) (hcall:callOf T σ o=some (f,args)) (hH:σ.heap=H++rest)
  (hr:rest=[]\/H'.length=H.length) (hin:objsInb H.length H=true) (hargs:inbL H.length args=true) (hd:o.dst=some d) (hlt:d<σ.n) (hb:(σ.get d).isBox=false)
  (hfr:args.all AV.free=true) (hc:ACall P f args H r H') (h:AOps P m ops l Q { σ with env:=eset σ.env d r,heap:=H'++rest }):AOps P m ops (o::l) Q σ:=by
 intro rr n G a w Q' hm' R hQ
 unfold wpListIn
 rw [if_pos (wantA_ok hw R)]
 obtain ⟨hcb,hrl,hri,hin',hHH,hcc⟩:=hc
 obtain ⟨hnd,vs,hrun,hvs,hrep⟩:=callOf_ok hcall hcb R
 have RH:RelH G (H++rest) w:=by rw [<-hH];exact R.h
 have hRh:=RH.handed hin
 have hfr' : ∀ c∈args,c.free=true:=by simpa using hfr
 have hsub:Sub G (G.handed H.length) w w (fun ℓ=>ℓ = .no) H.length :=
  ⟨KLe.refl _,fun b ℓ f hl hO=>absurd (hl▸rfl) (R.h.sane.no b ℓ f hO),fun _ _=>rfl,Nat.le_refl _⟩
 refine ⟨fun _ _=>trivial,?_⟩
 rw [Oper.semAt_eq _ _ _ hnd,hrun]
 refine ⟨fun hh=>by simp [Wd] at hh,?_⟩
 refine CallsIn.mono (callsIn_wd (hcc (n-1) (G.handed H.length) w vs hvs (fun i hi => ?_) hRh (fun b ℓ f hO => ?_))) ?_
 ·exact (hrep i hi).sub R.h.sane hsub rfl (inbL_get hargs i hi) (AV.free_isLocal (hfr' _ (zp6 hi)))
 ·have:=(handed_O hO).2
  cases ℓ <;> simp [objLoc] at this
  ·rename_i i;exact ⟨i,rfl⟩
  ·rename_i i j;exact ⟨i,rfl⟩
 ·rintro e w' ⟨v,G3,rfl,hv,R3,hE⟩
  obtain ⟨R',hext⟩:=R.back hH hr hHH R3 hE hin' hv hrl hri hlt hb
  show wpListIn _ _ _ _ _ _ (a.put o.dst v) w'
  rw [hd]
  refine h rr n _ _ w' Q' ?_ R' (fun e a' w'' hp=>hQ e a' w'' (hp.ext (hext m hm')))
  have hnh:G.nh=H.length+rest.length:=by rw [<-R.h.nh,hH];simp
  simp [Gh.back];omega
end
def DfOnly (G:Gh) (w w':World):Prop:=w'.heap.size=w.heap.size/\(∀ b,G.O b≠some (.df,0)->w'.heap[b]?=w.heap[b]?)/\w'.os=w.os/\w'.output=w.output/\(∀ a,a.block<w.heap.size->w'.frozen? a=w.frozen? a)/\w'.tape=w.tape/\w.drawn<=w'.drawn
theorem leaves_marks {P:Program} {n:Nat} {fn:Func} {tmps:Array Value} {R:Ending->World->Prop} {G:Gh} : ∀ (ds:List Deferred) (w:World),RelF G ds w ->
  (∀ w',DfOnly G w w' -> ∃ v,(results fn tmps).run P w' = .ok v w'/\R (.returned v) w')->LeavesInM (Wd none) n P fn tmps R ds .returning w
 | [],w,_,h=>by
   obtain ⟨v,h1,h2⟩:=h w ⟨rfl,fun _ _=>rfl,rfl,rfl,fun _ _=>rfl,rfl,Nat.le_refl _⟩
   exact ⟨v,h1,h2⟩
 | d::ds,w,hF,h=>by
   obtain ⟨hnd,hall⟩:=hF
   obtain ⟨r,rfl,hO,hw⟩:=hall d (by simp)
   have hlt:r<w.heap.size:=(Array.getElem?_eq_some_iff.1 hw).1
   let w1:World:={ w with heap:=w.heap.setIfInBounds r (.deferred none) }
   have hother : ∀ b,b≠r->w1.heap[b]?=w.heap[b]?:=by
    intro b hb;show (w.heap.setIfInBounds r _)[b]?=_;rw [Array.getElem?_setIfInBounds_ne (Ne.symm hb)]
   have htake:(Instr.takeDeferred r).run P w = .ok [] w1:=by
    simp [Instr.takeDeferred,getObj,setObj,Sem.run,hw,w1]
   refine ⟨by simp,.inl ⟨r,w1,rfl,htake,?_⟩⟩
   simp at hnd
   refine leaves_marks (G:=G) ds w1 ⟨hnd.2,fun d hd => ?_⟩ ?_
   ·obtain ⟨r',rfl,h1,h2⟩:=hall d (by simp [hd])
    refine ⟨r',rfl,h1,?_⟩
    rw [hother r' ?_];exact h2
    rintro rfl
    exact hnd.1 _ hd rfl
   ·rintro w' ⟨hs,hb,hio1,hio2,hio3,hio4,hio5⟩
    refine h w' ⟨by rw [hs];simp [w1],fun b hne => ?_,hio1,hio2,fun a ha=>(hio3 a (by simpa [w1] using ha)).trans ?_,hio4,hio5⟩
    ·rw [hb b hne,hother b ?_]
     rintro rfl;exact hne hO
    ·by_cases hab:a.block=r
     ·unfold World.frozen?
      rw [hab,hw,show w1.heap[r]?=some (.deferred none) by simp [w1,hlt]]
     ·unfold World.frozen?
      rw [hother _ hab]
def resAct (tmps:Array Value):ResultVar->Sem Value
 | .tmp t=>pure (tmps.getD t Go.undef)
 | .cell a t=>do loadVar t (<-asAddr (tmps.getD a Go.undef))
theorem resOne_ok {P:Program} {T:Types} (hT:TOk P T) {G:Gh} {σ:St} {a:Act} {w:World} (R:Rel G σ a w) {own:Bool} {x:ResultVar} {av:AV} (h:resOne T σ own x=some av) :
  ∃ v,(resAct a.tmps x).run P w = .ok v w/\av.isLocal=false/\((av.free=true /\ ∀ ℓ,RepV G w ℓ av v) \/ ∃ t k l,own=true/\av = .own k l/\RepV G w (.s t) (.own k l) v):=by
 cases x with
 | tmp t =>
   simp only [resOne] at h
   have hrep:=R.slots t
   refine ⟨a.tmps.getD t Go.undef,by simp [resAct],?_⟩
   have key : ∀ v,σ.get t=v->v.isLocal=false->(∀ k l,v ≠ .lim k l)->(∀ k l,v ≠ .tail k l)->(∀ k l,v ≠ .fresh k l)->some (if own then v else v.copy)=some av->av.isLocal=false/\((av.free=true /\ ∀ ℓ,RepV G w ℓ av (a.tmps.getD t Go.undef)) \/ ∃ t' k l,own=true/\av = .own k l/\RepV G w (.s t') (.own k l) (a.tmps.getD t Go.undef)):=by
    intro v hv hl hnl hnt hnf he
    rw [hv] at hrep
    simp at he;subst he
    cases own with
    | false=>exact ⟨AV.copy_isLocal _,.inl ⟨AV.copy_free _,fun ℓ=>hrep.copy ℓ⟩⟩
    | true =>
      refine ⟨hl,?_⟩
      by_cases hf:v.free=true
      ·exact .inl ⟨hf,fun ℓ=>hrep.anywhere hf ℓ⟩
      ·cases v <;> first | (simp [AV.free] at hf;done) | (simp [AV.isLocal] at hl;done) | (exact absurd rfl (hnl _ _)) | (exact absurd rfl (hnt _ _)) | (exact absurd rfl (hnf _ _)) | skip
       exact .inr ⟨t,_,_,rfl,rfl,hrep⟩
   split at h
   ·cases h
   ·cases h
   ·cases h
   ·rename_i k l hgl
    cases h
    rw [hgl] at hrep
    exact ⟨rfl,.inl ⟨rfl,fun ℓ=>hrep.copy ℓ⟩⟩
   ·rename_i k l hgl
    cases h
    rw [hgl] at hrep
    exact ⟨rfl,.inl ⟨rfl,fun ℓ=>hrep.copy ℓ⟩⟩
   ·rename_i v h1 h2 h5 h3 h4
    refine key _ rfl ?_ (fun k l e=>h3 k l e) (fun k l e=>h4 k l e) (fun k l e=>h5 k l e) h
    generalize σ.get t=c at h1 h2
    cases c <;> first | rfl | (exact absurd rfl (h1 _)) | (exact absurd rfl (h2 _ _))
 | cell t ty =>
   simp only [resOne] at h
   split at h
   ·rename_i cs td hcs htd
    obtain ⟨vs,e,hO,hw,hs,hh,hc,hat⟩:=box_rep R hcs
    obtain ⟨v,hv,hfree,hrep⟩:=load_run hT htd R (A := .slot t 0 cs) (b:=G.β (.s t)) (off:=0) ⟨hcs,rfl⟩ h
    exact ⟨v,by simp [resAct,hat,asAddr,hv],AV.free_isLocal hfree,.inl ⟨hfree,hrep⟩⟩
   ·rename_i i off td hcs htd
    split at h
    ·rename_i cs hob
     have hsl:=R.slots t
     rw [hcs] at hsl
     generalize hat:a.tmps.getD t Go.undef=v0 at hsl
     cases hsl with | ptr _ _ _ hi =>
     obtain ⟨v,hv,hfree,hrep⟩:=load_run hT htd R (A := .obj i off) (b:=G.β (.o i)) (off:=off) ⟨hi,rfl⟩ ⟨_,cs,hob,rfl,h⟩
     exact ⟨v,by simp [resAct,hat,asAddr,hv],AV.free_isLocal hfree,.inl ⟨hfree,hrep⟩⟩
    ·rename_i k l hob
     split at h
     ·rename_i hc
      obtain ⟨rfl,hagg,hlen,hone⟩:=hc
      cases h
      have hsl:=R.slots t
      rw [hcs] at hsl
      generalize hat:a.tmps.getD t Go.undef=v0 at hsl
      cases hsl with | ptr _ _ _ hi =>
      have hfl:D.flat l=l:=flat_one (List.all_eq_true.1 hone)
      have hrd:readAt td ((D.flat l).map .d) 0=some (.d (.agg l)):=by
       have hdo : ∀ m:List D,dataOf (m.map .d)=some m:=by
        intro m
        induction m with
        | nil=>rfl
        | cons x r ih=>simp [dataOf,ih]
       unfold readAt cut
       rw [hfl,if_pos (by simp [hlen])]
       simp only [hagg,if_true]
       rw [show (l.map AV.d).drop 0=l.map AV.d from rfl,List.take_of_length_le (by simp [hlen])]
       unfold mkAgg
       rw [hdo]
      obtain ⟨v,hv,hfree,hrep⟩:=load_run hT htd R (A := .obj i 0) (b:=G.β (.o i)) (off:=0) ⟨hi,rfl⟩ ⟨_,_,hob,rfl,hrd⟩
      exact ⟨v,by simp [resAct,hat,asAddr,hv],AV.free_isLocal hfree,.inl ⟨hfree,hrep⟩⟩
     ·cases h
    ·cases h
   ·cases h
theorem results_eq (fn:Func) (tmps:Array Value):results fn tmps=(do
  let vs <-fn.results.mapM (resAct tmps)
  pure (if h:vs.size=1 then vs[0] else .tuple vs)):=by
 unfold results resAct
 rfl
theorem resL_ok {P:Program} {T:Types} (hT:TOk P T) {G:Gh} {σ:St} {a:Act} {w:World} (R:Rel G σ a w) : ∀ (l:List ResultVar) (avs:List AV),l.mapM (resOne T σ false)=some avs ->
  ∃ vs:List Value,(l.mapM (resAct a.tmps)).run P w = .ok vs w/\vs.length=l.length/\avs.length=l.length/\(∀ c∈avs,c.isLocal=false) /\ ∀ (i:Nat) (hi:i<avs.length),RepV G w .no avs[i] (vs.getD i Go.undef)
 | [],avs,h=>by simp at h;subst h;exact ⟨[],by simp,rfl,rfl,fun c hc=>by simp at hc,fun i hi=>by simp at hi⟩
 | x::r,avs,h=>by
   simp only [List.mapM_cons,Option.bind_eq_bind,Option.bind_eq_some_iff,Option.pure_def,zp3] at h
   obtain ⟨av,hav,l',hl',rfl⟩:=h
   obtain ⟨vs,h1,h2,h3,h4,h5⟩:=resL_ok hT R r l' hl'
   obtain ⟨v,e1,e2,e3⟩:=resOne_ok hT R hav
   refine ⟨v::vs,by simp [List.mapM_cons,e1,h1],by simp [h2],by simp [h3],?_,fun i hi => ?_⟩
   ·intro c hc
    rcases List.mem_cons.1 hc with rfl | hc
    ·exact e2
    ·exact h4 c hc
   ·cases i with
    | zero =>
      rcases e3 with ⟨_,e3⟩ | ⟨_,_,_,e,_⟩
      ·simpa using e3 .no
      ·cases e
    | succ i=>simpa using h5 i (by simpa using hi)
theorem ACall.leaveP {P:Program} {T:Types} (hT:TOk P T) {fn:Func} {H H':List Obj} {r:AV} (hrl:r.isLocal=false) (hri:r.inb H'.length=true) (hin:objsInb H'.length H'=true)
  {n:Nat} {G:Gh} {w:World} {e:Exit} {a':Act} {w':World} (hp:Post H.length G w (FnPost T fn H.length r H') e a' w') :
  (e = .normal\/e = .ret)/\LeavesInM (Wd none) n P fn a'.tmps (fun e w' => ∃ v G',e = .returned v/\RepV G' w' .ret r v/\RelH G' H' w'/\Ext H.length G w G' w') a'.defers .returning w':=by
 obtain ⟨σ',G',R',hE,hm,hq⟩:=hp

 have fin : ∀ (hq:resAV T σ' fn.results.toList=some r/\r.inb H'.length=true/\objsInb H'.length H'=true/\H.length<=H'.length /\ ∃ junk,σ'.heap=H'++junk),
   LeavesInM (Wd none) n P fn a'.tmps (fun e w' => ∃ v G',e = .returned v/\RepV G' w' .ret r v/\RelH G' H' w'/\Ext H.length G w G' w') a'.defers .returning w':=by
  rintro ⟨hres,_,_,_,junk,hjunk⟩
  refine leaves_marks (G:=G') _ _ R'.df ?_
  rintro wf ⟨hfs,hfb,hfio⟩
  have hpr:Pres G' G' w' wf (fun ℓ=>ℓ ≠ .df):=⟨KLe.refl _,fun b ℓ f hℓ hO=>⟨hO,hfb b (fun hf'=>by rw [hO] at hf';simp at hf';exact hℓ hf'.1)⟩,fun _ _=>rfl,Nat.le_refl _⟩
  have hkept : ∀ x v,G'.K x=some v->wf.cell? x=some v:=by
   intro x v hx
   have hc:=R'.h.kept x v hx
   have hne:G'.O x.block≠some (.df,0):=by
    intro hO
    have hsp:x.spot=none:=by
     unfold World.cell? at hc
     split at hc
     ·split at hc
      ·cases hc
      ·rename_i hsp;simpa using hsp
     ·cases hc
    have:=(R'.h.disj _ _ _ hO).2 x.off (Nat.zero_le _)
    obtain ⟨xb,xo,xs⟩:=x
    simp at hsp;subst hsp
    rw [this] at hx;cases hx
   unfold World.cell? at *
   rwa [hfb _ hne]
  have R2:Rel G' σ' { tmps:=a'.tmps,defers:=[] } wf:=by
   refine ⟨⟨R'.h.sane,R'.h.nh,fun i ob hob=>(R'.h.objs i ob hob).pres R'.h.sane (by rw [<-R'.h.nh];exact (zp2.1 hob).1) hpr (by simp) (by simp),hkept,fun b ℓ f hO=>by rw [hfs];exact R'.h.disj b ℓ f hO⟩,R'.size,
    fun t=>(R'.slots t).pres R'.h.sane hpr (by simp) (fun _ _ _=>rfl) (fun _ _ _=>⟨rfl,by simp⟩),R'.places,⟨by simp,fun d hd=>by simp at hd⟩⟩
  have hE2:Ext H.length G w G' wf:=by
   refine ⟨hE.K,hE.new,fun b hb hO' => ?_,by rw [hfs];exact hE.size,hE.β,hfio.1.trans hE.io.1,hfio.2.1.trans hE.io.2.1,fun a ha=>(hfio.2.2.1 a (Nat.lt_of_lt_of_le ha hE.size)).trans (hE.io.2.2.1 a ha),hfio.2.2.2.1.trans hE.io.2.2.2.1,Nat.le_trans hE.io.2.2.2.2 hfio.2.2.2.2⟩
   obtain ⟨h1,h2⟩:=hE.others b hb hO'
   exact ⟨(hfb b (fun hf=>by rw [h2] at hf;cases hf)).trans h1,h2⟩

  have cutG : ∀ (G2:Gh),RelH G2 σ'.heap wf->H'.length<=G2.nh->Ext H.length G w G2 wf->RelH { G2 with nh:=H'.length } H' wf/\Ext H.length G w { G2 with nh:=H'.length } wf /\
    ∀ ℓ v,RepV G2 wf ℓ r v->RepV { G2 with nh:=H'.length } wf ℓ r v:=by
   intro G2 RH2 hle hEE
   have hsub:Sub G2 { G2 with nh:=H'.length } wf wf (fun _=>True) H'.length:=⟨KLe.refl _,fun b ℓ f _ hO=>⟨hO,rfl⟩,fun _ _=>rfl,Nat.le_refl _⟩
   refine ⟨⟨⟨RH2.sane.no⟩,rfl,fun i ob hob => ?_,RH2.kept,RH2.disj⟩,⟨hEE.K,hEE.new,hEE.others,hEE.size,hEE.β,hEE.io⟩,fun ℓ v hv=>hv.sub RH2.sane hsub trivial hri hrl⟩
   have hi:i<H'.length:=(zp2.1 hob).1
   exact (RH2.objs i ob (by rw [hjunk,zp7 hi];exact hob)).sub RH2.sane hi hsub trivial (fun _=>trivial) (objsInb_get hin i ob hob)
  have hle:H'.length<=G'.nh:=by rw [<-R'.h.nh,hjunk];simp
  rw [results_eq]
  simp only [resAV] at hres
  split at hres
  ·rename_i x hx
   obtain ⟨v,h1,h2,h3⟩:=resOne_ok hT R2 hres
   have hrun:(do let vs <-fn.results.mapM (resAct a'.tmps);pure (if h:vs.size=1 then vs[0] else Value.tuple vs):Sem Value).run P wf = .ok v wf:=by
    have:fn.results = #[x]:=by cases hfr2:fn.results;simp_all
    rw [this]
    simp [h1]
   rcases h3 with ⟨hfree,h3⟩ | ⟨t,k,l,_,rfl,h3⟩
   ·obtain ⟨k1,k2,k3⟩:=cutG G' R2.h hle hE2
    exact ⟨v,hrun,v,_,rfl,k3 _ _ (h3 .ret),k1,k2⟩
   ·cases h3 with | own _ _ _ _ hr ht =>
    have hmv:=G'.move_pres wf (.s t) .ret
    have RHm:RelH (G'.move (.s t) .ret) σ'.heap wf:=R2.h.move _ _ (by simp [Loc.root]) (fun i ob hob=>(R2.h.objs i ob hob).pres R2.h.sane (by rw [<-R2.h.nh];exact (zp2.1 hob).1) hmv (by simp) (by simp))
    obtain ⟨k1,k2,k3⟩:=cutG (G'.move (.s t) .ret) RHm hle (hE2.trans (Ext.move _ _ _ _ _))
    exact ⟨v,hrun,v,_,rfl,k3 _ _ (.own _ _ _ _ hr ht.move),k1,k2⟩
  ·rename_i l hl
   simp at hres
   obtain ⟨avs,hav,rfl⟩:=hres
   obtain ⟨vs,h1,h2,h3,h4,h5⟩:=resL_ok hT R2 _ _ hav
   obtain ⟨k1,k2,k3⟩:=cutG G' R2.h hle hE2
   have hrun:(do let vs <-fn.results.mapM (resAct a'.tmps);pure (if h:vs.size=1 then vs[0] else Value.tuple vs):Sem Value).run P wf = .ok (.tuple vs.toArray) wf:=by
    have hne:vs.length≠1:=by
     intro h;rw [h2] at h
     obtain ⟨x,hx⟩:=List.length_eq_one_iff.1 h
     exact hl x hx
    simp [Array.mapM_eq_mapM_toList,h1,hne]
   exact ⟨.tuple vs.toArray,hrun,_,_,rfl,k3 _ _ (.tuple _ _ _ (by simp [h2,h3]) (fun i hi=>by simpa [List.getD,zp5] using h5 i hi) h4),k1,k2⟩
 cases e with
 | normal=>exact ⟨.inl rfl,fin hq⟩
 | ret=>exact ⟨.inr rfl,fin hq⟩
 | _=>exact hq.elim
theorem ACall.enterW {P:Program} {T:Types} (hT:TOk P T) {f:FuncId} {fn:Func} {c:Code} {args:List AV} {H H':List Obj} {r:AV} (hf:P.funcs[f]?=some fn) (hb:fn.body=some c) (hname:fn.name ≠ "runtime.NumGoroutine")
  (hn:args.length<=fn.ntmps) (hfr:args.all AV.free=true) (hrl:r.isLocal=false) (hri:r.inb H'.length=true) (hin:objsInb H'.length H'=true) (hHH:H.length<=H'.length)
  (n:Nat) (G:Gh) (w:World) (h : ∀ a,Rel G { env:=envOf 0 args,heap:=H,n:=fn.ntmps } a w->c.wpIn (Wd none) n P (Post H.length G w (FnPost T fn H.length r H')) a w)
  (vs:Array Value) (hvs:vs.size=args.length) (hrep : ∀ (i:Nat) (hi:i<args.length),RepV G w .no args[i] (vs.getD i Go.undef)) (RH:RelH G H w) :
  CallsIn (Wd none) n P f vs w (fun e w' => ∃ v G',e = .returned v/\RepV G' w' .ret r v/\RelH G' H' w'/\Ext H.length G w G' w'):=by
 have hfr' : ∀ c∈args,c.free=true:=by simpa using hfr
 refine callsIn_of_wp_marks hf hb trivial ?_ rfl
 have hsz:(vs++Array.replicate (fn.ntmps-vs.size) Go.undef).size=fn.ntmps:=by simp;omega
 have R:Rel G { env:=envOf 0 args,heap:=H,n:=fn.ntmps } { tmps:=vs++Array.replicate (fn.ntmps-vs.size) Go.undef,defers:=[] } w:=by
  refine ⟨RH,hsz,fun t => ?_,fun t r off ht => ?_,⟨by simp,fun d hd=>by simp at hd⟩⟩
  ·simp only [St.get,eget_envOf]
   split
   ·rename_i ht
    simp at ht
    have:=(hrep t (by omega)).anywhere (hfr' _ (zp6 (by omega))) (.s t)
    simpa [List.getD,show t<args.length by omega,zp5,Array.getElem?_append_left (show t<vs.size by omega)] using this
   ·exact .undef _ _
  ·simp only [St.get,eget_envOf] at ht
   split at ht
   ·rename_i hlt
    simp at hlt
    have:args[t]'(by omega)∈args:=zp6 _
    have h2:=hfr' _ this
    simp [List.getD,show t<args.length by omega] at ht
    rw [ht] at h2;simp [AV.free] at h2
   ·cases ht
 refine wpIn_mono (h _ R) ?_
 intro e a' w' hp
 obtain ⟨he,hl⟩:=ACall.leaveP (n:=n) hT hrl hri hin hp
 rcases he with rfl | rfl
 ·exact hl
 ·exact hl
theorem ACall.enterT {P:Program} {T:Types} (hT:TOk P T) {f:FuncId} {fn:Func} {c:Code} {args:List AV} {H H':List Obj} {r:AV} (hf:P.funcs[f]?=some fn) (hb:fn.body=some c) (hname:fn.name ≠ "runtime.NumGoroutine")
  (hn:args.length<=fn.ntmps) (hfr:args.all AV.free=true) (hrl:r.isLocal=false) (hri:r.inb H'.length=true) (hin:objsInb H'.length H'=true) (hHH:H.length<=H'.length)
  (h:AWpT P H.length c (FnPost T fn H.length r H') { env:=envOf 0 args,heap:=H,n:=fn.ntmps }):ACall P f args H r H' :=
 ⟨by simp [callable,hf,hb,hname],hrl,hri,hin,hHH,fun n G w vs hvs hrep RH _ =>
  ACall.enterW hT hf hb hname hn hfr hrl hri hin hHH n G w (fun a R=>h n G a w (by rw [RH.nh];exact Nat.le_refl _) R) vs hvs hrep RH⟩
theorem ACall.enter {P:Program} {T:Types} (hT:TOk P T) {f:FuncId} {fn:Func} {c:Code} {args:List AV} {H H':List Obj} {r:AV} (hf:P.funcs[f]?=some fn) (hb:fn.body=some c) (hname:fn.name ≠ "runtime.NumGoroutine")
  (hn:args.length<=fn.ntmps) (hfr:args.all AV.free=true) (hrl:r.isLocal=false) (hri:r.inb H'.length=true) (hin:objsInb H'.length H'=true) (hHH:H.length<=H'.length)
  (h:AWp P H.length c (FnPost T fn H.length r H') { env:=envOf 0 args,heap:=H,n:=fn.ntmps }):ACall P f args H r H' :=
 ACall.enterT hT hf hb hname hn hfr hrl hri hin hHH (AWpT.of h)
end Go.Am

namespace Go.Am
open Go
def callY (T:Types) (σ:St) (o:Oper):Option (Nat×List AV) :=
 match o.op with
 | .call { callee := .value (.tmp t),args,argTypes } =>
   match σ.get t,((args.toList.zip argTypes.toList).mapM fun p=>opv T σ.get p.2 p.1) with
   | .yield l,some vs=>if args.size=argTypes.size then some (l,vs.map AV.copy) else none
   | _,_=>none
 | _=>none
inductive Out where
 | done (σ:St)
 | yield (l:Nat) (args:List AV) (o:Oper) (rest:List Oper) (σ:St)
 | call (f:FuncId) (args:List AV) (o:Oper) (rest:List Oper) (σ:St)
 | stuck
def runP (A:Ar) (T:Types) (an:Ann) (all:List Oper):List Oper->St->Out
 | [],σ => .done σ
 | o::os,σ =>
   match wantA all σ o with
   | some true =>
     match callOf T σ o with
     | some (f,args) => .call f args o os σ
     | none =>
       match callY T σ o with
       | some (l,args) => .yield l args o os σ
       | none =>
         match evCore A T an σ.n σ.get σ.heap o with
         | some (ss,h)=>runP A T an all os (σ.upd ss h)
         | none => .stuck
   | some false =>
     match o.dst with
     | some d=>if decide (d<σ.n) && !(σ.get d).isBox then runP A T an all os (σ.upd [(d,.tuple [])] none) else .stuck
     | none=>runP A T an all os σ
   | none => .stuck
theorem upd_len {A:Ar} {T:Types} {an:Ann} {σ:St} {o:Oper} {ss:Sets} {h:Option (List Obj)} (he:evCore A T an σ.n σ.get σ.heap o=some (ss,h)):σ.heap.length<=(σ.upd ss h).heap.length:=by
 cases h with
 | none=>exact Nat.le_refl _
 | some H'=>exact evCore_len he
section
variable {P:Program} {T:Types} {m:Nat} {Q:Exit->St->Prop} {ops:Array Oper} {an:Ann}
def Resume (P:Program) (m:Nat) (ops:Array Oper) (T:Types) (Q:Exit->St->Prop):Out->Prop
 | .done σ=>Q .normal σ
 | .call f args o rest σ=>callOf T σ o=some (f,args)->wantA ops.toList σ o=some true->AOps P m ops (o::rest) Q σ
 | .yield l args o rest σ=>callY T σ o=some (l,args)->wantA ops.toList σ o=some true->AOps P m ops (o::rest) Q σ
 | .stuck=>False
theorem AOps.run (hT:TOk P T) : ∀ (l:List Oper) (σ:St),m<=σ.heap.length->Resume P m ops T (fun e σ'=>m<=σ'.heap.length->Q e σ') (runP Ar.std T an ops.toList l σ)->AOps P m ops l Q σ
 | [],σ,hm,h=>AOps.nil (h hm)
 | o::os,σ,hm,h=>by
   unfold runP at h
   cases hw:wantA ops.toList σ o with
   | none=>simp [hw,Resume] at h
   | some b =>
     cases b with
     | true =>
       simp only [hw] at h
       cases hc:callOf T σ o with
       | some p =>
         obtain ⟨f,args⟩:=p
         simp only [hc] at h
         have:=h hc hw
         intro r n G a w Q' hm' R hQ
         exact this r n G a w Q' hm' R (fun e a' w' hp=>by
          obtain ⟨σ',G',R',hE,hm'',hq⟩:=hp
          exact hQ e a' w' ⟨σ',G',R',hE,hm'',hq (by rw [R'.h.nh];exact hm'')⟩)
       | none =>
         simp only [hc] at h
         cases hy:callY T σ o with
         | some p =>
           obtain ⟨l,args⟩:=p
           simp only [hy] at h
           have:=h hy hw
           intro r n G a w Q' hm' R hQ
           exact this r n G a w Q' hm' R (fun e a' w' hp=>by
            obtain ⟨σ',G',R',hE,hm'',hq⟩:=hp
            exact hQ e a' w' ⟨σ',G',R',hE,hm'',hq (by rw [R'.h.nh];exact hm'')⟩)
         | none =>
         simp only [hy] at h
         cases he:evCore Ar.std T an σ.n σ.get σ.heap o with
         | none=>simp [he,Resume] at h
         | some q =>
           obtain ⟨ss,h'⟩:=q
           simp only [he] at h
           have hlen:=upd_len he
           exact AOps.step hw (evCore_ok hT (less_get σ) (fun _ _=>rfl) (fun _ _ h=>h) (fun _=>rfl) he) (by omega) (AOps.run hT os _ (by omega) h)
     | false =>
       simp only [hw] at h
       cases hd:o.dst with
       | none=>simp only [hd] at h;exact AOps.skip0 hw hd (AOps.run hT os σ hm h)
       | some d =>
         simp only [hd] at h
         split at h
         ·rename_i hc
          simp at hc
          exact AOps.skip hw hd hc.1 hc.2 (AOps.run hT os _ hm h)
         ·exact h.elim
theorem AOps.done (hT:TOk P T) {l:List Oper} {σ σ':St} (h : ∀ A:Ar,A=Ar.std->runP A T an ops.toList l σ = .done σ') (hm:m<=σ.heap.length) (hq:Q .normal σ'):AOps P m ops l Q σ :=
 AOps.run (an:=an) hT l σ hm (by rw [h _ rfl];exact fun _=>hq)
end
def AV.noPlace:AV->AV
 | .place .. => .undef
 | v=>v
def keepE (e:List (Nat×AV)):List Nat->List (Nat×AV)
 | []=>[]
 | t::r=>(t,(eget e t).noPlace)::keepE e r
def St.keep (σ:St) (ts:List Nat):St:={ σ with env:=keepE σ.env ts }
theorem eget_keepE (e:List (Nat×AV)) : ∀ (ts:List Nat) (t:Nat),eget (keepE e ts) t=(eget e t).noPlace\/eget (keepE e ts) t = .undef
 | [],t => .inr rfl
 | s::r,t=>by
   simp only [keepE,eget]
   split
   ·rename_i h;subst h;exact .inl rfl
   ·exact eget_keepE e r t
theorem Rel.keep {G:Gh} {σ:St} {a:Act} {w:World} (R:Rel G σ a w) (ts:List Nat):Rel G (σ.keep ts) a w:=by
 refine ⟨R.h,R.size,fun t => ?_,fun t r off ht => ?_,R.df⟩
 ·rcases eget_keepE σ.env ts t with h | h
  ·simp only [St.keep,St.get,h]
   have:=R.slots t
   simp only [St.get] at this
   generalize eget σ.env t=c at this
   cases c <;> first | exact this | exact .undef _ _
  ·simp only [St.keep,St.get,h];exact .undef _ _
 ·simp only [St.keep,St.get] at ht
  rcases eget_keepE σ.env ts t with h | h
  ·rw [h] at ht
   generalize eget σ.env t=c at ht
   cases c <;> simp [AV.noPlace] at ht
  ·rw [h] at ht;cases ht
section
variable {P:Program} {T:Types} {m:Nat} {Q:Exit->St->Prop} {σ:St}
theorem AWp.keep (ts:List Nat) {c:Code} (h:AWp P m c Q (σ.keep ts)):AWp P m c Q σ:=fun r n G a w hm R=>h r n G a w hm (R.keep ts)
def St.drop (σ:St) (k:Nat):St:={ σ with heap:=σ.heap.take k }
end
end Go.Am

namespace Go.Am
open Go
structure Rec where
 sets:Sets
 heap:Option (List Obj)
 rd:List Nat
 hr:Bool
 ho:List Nat
 low:List Obj
structure Foot where
 wr:List Nat
 rd:List Nat
 hw:Bool
 hr:Bool
 ho:List Nat
 lw:Nat
def Rec.foot (x:Rec):Foot:={ wr:=x.sets.map (·.1),rd:=x.rd,hw:=x.heap.isSome,hr:=x.hr,ho:=x.ho,lw:=x.low.length }
def lowOn (low H:List Obj):List Obj:=low++H.drop low.length
@[simp] theorem lowOn_nil (H:List Obj):lowOn [] H=H:=rfl
theorem lowOn_zero {low:List Obj} (h:low.length=0) (H:List Obj):lowOn low H=H:=by rw [List.length_eq_zero_iff.1 h];rfl
theorem lowOn_len (low H:List Obj):H.length<=(lowOn low H).length:=by simp [lowOn];omega
theorem lowOn_get {low H:List Obj} {a:Nat} (h : ¬ a<low.length):(lowOn low H)[a]?=H[a]?:=by
 unfold lowOn
 rw [zp8 (by omega),List.getElem?_drop]
 congr 1;omega
theorem lowOn_get2 {low H H':List Obj} {a:Nat} (h:H[a]?=H'[a]?):(lowOn low H)[a]?=(lowOn low H')[a]?:=by
 by_cases hl:a<low.length
 ·unfold lowOn;rw [zp7 hl,zp7 hl]
 ·rw [lowOn_get hl,lowOn_get hl];exact h
def meets (l m:List Nat):Bool:=l.any fun t=>m.contains t
def Foot.over (x y:Foot):Bool:=(x.hw&&(y.hr || !y.ho.isEmpty))||(decide (0<x.lw)&&y.hr)||y.ho.any fun a=>decide (a<x.lw)
def Foot.both (x y:Foot):Bool:=(x.hw||decide (0<x.lw))&&(y.hw||decide (0<y.lw))
def Foot.clash (x y:Foot):Bool:=meets x.wr (y.rd++y.wr)||meets x.rd y.wr||x.over y||y.over x||x.both y
structure Alike (σ τ:St):Prop where
 get : ∀ t,σ.get t=τ.get t
 heap:σ.heap=τ.heap
 n:σ.n=τ.n
theorem Alike.refl (σ:St):Alike σ σ:=⟨fun _=>rfl,rfl,rfl⟩
theorem Alike.symm {σ τ:St} (h:Alike σ τ):Alike τ σ:=⟨fun t=>(h.get t).symm,h.heap.symm,h.n.symm⟩
theorem Alike.trans {σ τ υ:St} (h:Alike σ τ) (h':Alike τ υ):Alike σ υ:=⟨fun t=>(h.get t).trans (h'.get t),h.heap.trans h'.heap,h.n.trans h'.n⟩
theorem Rel.alike {G:Gh} {σ τ:St} {a:Act} {w:World} (R:Rel G σ a w) (h:Alike σ τ):Rel G τ a w :=
 ⟨h.heap▸R.h,by rw [R.size,h.n],fun t=>by rw [<-h.get t];exact R.slots t,fun t r off ht=>by rw [<-h.get t] at ht;obtain ⟨cs,hcs⟩:=R.places t r off ht;exact ⟨cs,by rw [<-h.get r];exact hcs⟩,R.df⟩
def lastSet:Sets->Nat->Option AV
 | [],_=>none
 | (s,v)::r,t=>match lastSet r t with
   | some x=>some x
   | none=>if s=t then some v else none
theorem eget_esets : ∀ (ss:Sets) (e:List (Nat×AV)) (t:Nat),eget (esets e ss) t=(lastSet ss t).getD (eget e t)
 | [],e,t=>rfl
 | (s,v)::r,e,t=>by
   have ih:=eget_esets r (eset e s v) t
   simp only [esets,List.foldl_cons] at ih ⊢
   rw [ih,eget_eset]
   simp only [lastSet]
   cases lastSet r t with
   | some x=>rfl
   | none=>split <;> rfl
theorem lastSet_none {ss:Sets} {t:Nat} (h:t∉ss.map (·.1)):lastSet ss t=none:=by
 induction ss with
 | nil=>rfl
 | cons p r ih =>
   obtain ⟨s,v⟩:=p
   simp at h
   simp only [lastSet]
   rw [ih (by simp;exact h.2),if_neg (fun e=>h.1 e.symm)]
theorem upd_get (σ:St) (ss:Sets) (h:Option (List Obj)) (t:Nat):(σ.upd ss h).get t=(lastSet ss t).getD (σ.get t):=eget_esets ss σ.env t
def Rec.app (σ:St) (x:Rec):St:={ σ.upd x.sets x.heap with heap:=lowOn x.low (σ.upd x.sets x.heap).heap }
theorem app_get (σ:St) (x:Rec) (t:Nat):(x.app σ).get t=(lastSet x.sets t).getD (σ.get t):=upd_get σ x.sets x.heap t
theorem app_heap (σ:St) (x:Rec):(x.app σ).heap=lowOn x.low (x.heap.getD σ.heap):=rfl
theorem app_comm {x y:Rec} (h:x.foot.clash y.foot=false) (σ:St):Alike (y.app (x.app σ)) (x.app (y.app σ)):=by
 simp only [Foot.clash,Foot.over,Foot.both,Rec.foot,Bool.or_eq_false_iff] at h
 obtain ⟨⟨⟨⟨h1,h2⟩,h3⟩,h4⟩,h5⟩:=h
 have hdis : ∀ t,t∈x.sets.map (·.1)->t∉y.sets.map (·.1):=by
  intro t ht hy
  have:=List.any_eq_false.1 h1 t ht
  simp at this
  simp at hy
  exact absurd hy (by simpa using this.2)
 refine ⟨fun t => ?_,?_,rfl⟩
 ·simp only [app_get]
  by_cases hx:t∈x.sets.map (·.1)
  ·rw [lastSet_none (hdis t hx)];rfl
  ·rw [lastSet_none hx]
   rfl
 ·simp only [app_heap]
  simp only [Bool.and_eq_false_iff,Bool.or_eq_false_iff] at h5
  rcases h5 with ⟨e1,e2⟩ | ⟨e1,e2⟩ <;> (replace e2:=of_decide_eq_false e2;replace e2:=Nat.eq_zero_of_not_pos e2)
  ·rw [lowOn_zero e2]
   cases hx:x.heap with
   | none=>simp only [Option.getD_none];rw [lowOn_zero e2]
   | some _=>rw [hx] at e1;cases e1
  ·rw [lowOn_zero e2]
   cases hx:y.heap with
   | none=>simp only [Option.getD_none];rw [lowOn_zero e2]
   | some _=>rw [hx] at e1;cases e1
def stateOf (S:Nat->Bool):Nat->List Rec->St->St
 | _,[],σ=>σ
 | i,x::r,σ=>stateOf S (i+1) r (if S i then x.app σ else σ)
theorem stateOf_alike (S:Nat->Bool) : ∀ (i:Nat) (l:List Rec) {σ τ:St},Alike σ τ->Alike (stateOf S i l σ) (stateOf S i l τ)
 | _,[],_,_,h=>h
 | i,x::r,σ,τ,h=>by
   simp only [stateOf]
   refine stateOf_alike S (i+1) r ?_
   split
   ·refine ⟨fun t=>by rw [app_get,app_get,h.get],by rw [app_heap,app_heap,h.heap],h.n⟩
   ·exact h
theorem stateOf_congr {S S':Nat->Bool} : ∀ (i:Nat) (l:List Rec) (σ:St),(∀ j,i<=j->j<i+l.length->S j=S' j)->stateOf S i l σ=stateOf S' i l σ
 | _,[],_,_=>rfl
 | i,x::r,σ,h=>by
   simp only [stateOf]
   rw [h i (Nat.le_refl _) (by simp)]
   exact stateOf_congr (i+1) r _ (fun j h1 h2=>h j (by omega) (by simp;omega))
theorem stateOf_late (S:Nat->Bool) (x:Rec) : ∀ (i:Nat) (l:List Rec) (σ:St),(∀ (j:Nat) (hj:j<l.length),S (i+j)=true->x.foot.clash l[j].foot=false)->Alike (stateOf S i l (x.app σ)) (x.app (stateOf S i l σ))
 | _,[],σ,_=>Alike.refl _
 | i,y::r,σ,h=>by
   simp only [stateOf]
   have ih:=stateOf_late S x (i+1) r (if S i then y.app σ else σ) (fun j hj hS=>h (j+1) (by simp;omega) (by rw [show i+(j+1)=i+1+j by omega];exact hS))
   refine Alike.trans (stateOf_alike S (i+1) r ?_) ih
   split
   ·rename_i hi;exact app_comm (h 0 (by simp) (by simpa using hi)) σ
   ·exact Alike.refl _
theorem stateOf_add (S:Nat->Bool) (q:Nat) : ∀ (i:Nat) (l:List Rec) (σ:St) (hq:q<l.length),S (i+q)=false->(∀ (j:Nat) (hj:j<l.length),q<j->S (i+j)=true->(l[q]).foot.clash l[j].foot=false) ->
  Alike (stateOf (fun k=>k == i+q||S k) i l σ) ((l[q]).app (stateOf S i l σ))
 | i,[],σ,hq,_,_=>by simp at hq
 | i,x::r,σ,hq,hS,h=>by
   simp only [stateOf]
   cases q with
   | zero =>
     simp only [Nat.add_zero] at hS ⊢
     simp only [beq_self_eq_true,Bool.true_or,if_true,hS,Bool.false_eq_true,if_false,List.getElem_cons_zero]
     rw [stateOf_congr (S':=S) (i+1) r _ (fun j h1 _=>by simp;intro e;omega)]
     exact stateOf_late S x (i+1) r σ (fun j hj hSj=>h (j+1) (by simp;omega) (by omega) (by rw [show i+(j+1)=i+1+j by omega];exact hSj))
   | succ q =>
     have hne:(i == i+(q+1))=false:=by simp
     simp only [hne,Bool.false_or]
     have ih:=stateOf_add S q (i+1) r (if S i then x.app σ else σ) (by simpa using hq) (by rw [show i+1+q=i+(q+1) by omega];exact hS)
      (fun j hj hqj hSj=>h (j+1) (by simp;omega) (by omega) (by rw [show i+(j+1)=i+1+j by omega];exact hSj))
     rw [show i+1+q=i+(q+1) by omega] at ih
     simpa using ih
def Foot.spares (y f:Foot):Prop:=(∀ t∈f.rd,t∉y.wr)/\(f.hr=true->y.hw=false/\y.lw=0) /\ ∀ a∈f.ho,y.hw=false /\ ¬ a<y.lw
theorem Foot.spares_over {y f:Foot} (h:y.over f=false):(f.hr=true->y.hw=false/\y.lw=0) /\ ∀ a∈f.ho,y.hw=false /\ ¬ a<y.lw:=by
 simp only [Foot.over,Bool.or_eq_false_iff] at h
 obtain ⟨⟨h1,h2⟩,h3⟩:=h
 refine ⟨fun hr => ?_,fun a ha => ?_⟩
 ·rw [hr] at h1 h2
  refine ⟨by simpa using h1,?_⟩
  have : ¬ 0<y.lw:=by simpa using h2
  omega
 ·refine ⟨?_,by simpa using List.any_eq_false.1 h3 a ha⟩
  have:f.ho.isEmpty=false:=by
   cases hf:f.ho with
   | nil=>rw [hf] at ha;cases ha
   | cons _ _=>rfl
  rw [this] at h1
  simpa using h1
theorem Foot.spares_left {y f:Foot} (h:y.clash f=false):y.spares f:=by
 simp only [Foot.clash,Bool.or_eq_false_iff] at h
 obtain ⟨⟨⟨⟨h1,_⟩,h3⟩,_⟩,_⟩:=h
 refine ⟨fun t ht hy => ?_,Foot.spares_over h3⟩
 have:=List.any_eq_false.1 h1 t hy
 simp at this
 exact this.1 ht
theorem stateOf_same (S S':Nat->Bool) (f:Foot) : ∀ (i:Nat) (l:List Rec) (σ τ:St),(∀ (j:Nat) (hj:j<l.length),S (i+j)≠S' (i+j)->(l[j]).foot.spares f) ->
  (∀ t∈f.rd,σ.get t=τ.get t)->(f.hr=true->σ.heap=τ.heap)->(∀ a∈f.ho,σ.heap[a]?=τ.heap[a]?)->σ.n=τ.n ->
  (∀ t∈f.rd,(stateOf S i l σ).get t=(stateOf S' i l τ).get t)/\(f.hr=true->(stateOf S i l σ).heap=(stateOf S' i l τ).heap)/\(∀ a∈f.ho,(stateOf S i l σ).heap[a]?=(stateOf S' i l τ).heap[a]?)/\(stateOf S i l σ).n=(stateOf S' i l τ).n
 | _,[],σ,τ,_,h1,h2,h4,h3=>⟨h1,h2,h4,h3⟩
 | i,x::r,σ,τ,h,h1,h2,h4,h3=>by
   simp only [stateOf]
   have hx:=h 0 (by simp)
   simp only [Nat.add_zero,List.getElem_cons_zero] at hx
   have hrest:=fun σ τ=>stateOf_same S S' f (i+1) r σ τ (fun j hj hne=>h (j+1) (by simp;omega) (by rw [show i+(j+1)=i+1+j by omega];exact hne))
   have skipL:x.foot.spares f->(∀ (σ:St),∀ t∈f.rd,(x.app σ).get t=σ.get t)/\(∀ (σ:St),f.hr=true->(x.app σ).heap=σ.heap) /\ ∀ (σ:St),∀ a∈f.ho,(x.app σ).heap[a]?=σ.heap[a]?:=by
    rintro ⟨e1,e2,e3⟩
    refine ⟨fun σ t ht => ?_,fun σ hr => ?_,fun σ a ha => ?_⟩
    ·rw [app_get,lastSet_none (e1 t ht)];rfl
    ·obtain ⟨q1,q2⟩:=e2 hr
     simp only [Rec.foot] at q1 q2
     rw [app_heap,lowOn_zero q2]
     cases hh:x.heap with
     | none=>rfl
     | some _=>rw [hh] at q1;cases q1
    ·obtain ⟨q1,q2⟩:=e3 a ha
     simp only [Rec.foot] at q1 q2
     rw [app_heap,lowOn_get q2]
     cases hh:x.heap with
     | none=>rfl
     | some _=>rw [hh] at q1;cases q1
   cases hS:S i <;> cases hS':S' i
   ·exact hrest σ τ h1 h2 h4 h3
   ·obtain ⟨e1,e2,e3⟩:=skipL (hx (by rw [hS,hS'];decide))
    simp only [if_true,Bool.false_eq_true,if_false]
    exact hrest _ _ (fun t ht=>by rw [e1 τ t ht];exact h1 t ht) (fun hr=>by rw [e2 τ hr];exact h2 hr) (fun a ha=>by rw [e3 τ a ha];exact h4 a ha) h3
   ·obtain ⟨e1,e2,e3⟩:=skipL (hx (by rw [hS,hS'];decide))
    simp only [if_true,Bool.false_eq_true,if_false]
    exact hrest _ _ (fun t ht=>by rw [e1 σ t ht];exact h1 t ht) (fun hr=>by rw [e2 σ hr];exact h2 hr) (fun a ha=>by rw [e3 σ a ha];exact h4 a ha) h3
   ·simp only [if_true]
    refine hrest _ _ (fun t ht => ?_) (fun hr => ?_) (fun a ha => ?_) h3
    ·rw [app_get,app_get,h1 t ht]
    ·rw [app_heap,app_heap,h2 hr]
    ·rw [app_heap,app_heap]
     cases x.heap with
     | none=>exact lowOn_get2 (h4 a ha)
     | some _=>rfl
def maskOf (acc:List Nat) (o:Oper):Nat:=o.after.toList.foldl (fun s e=>if Region.binds .any e then s ||| 2 ^ e.on ||| acc.getD e.on 0 else s) 0
def masks:List Oper->List Nat->List Nat
 | [],acc=>acc
 | o::os,acc=>masks os (acc++[maskOf acc o])
def backOnly:Nat->List Oper->Bool
 | _,[]=>true
 | i,o::os=>o.after.toList.all (fun e => !Region.binds .any e||decide (e.on<i))&&backOnly (i+1) os
def pairOk (ms:List Nat) (fs:List Foot):Bool :=
 (List.range fs.length).all fun j=>(List.range j).all fun i=>(ms.getD j 0).testBit i ||
  match fs[i]?,fs[j]? with
  | some x,some y => !(x.clash y) && !(y.clash x)
  | _,_=>true
def okOrder (ops:List Oper) (fs:List Foot):Bool:=backOnly 0 ops&&pairOk (masks ops []) fs
def Closed (ops:Array Oper) (S:Nat->Bool):Prop := ∀ (j:Nat) (o:Oper),ops[j]?=some o->S j=true -> ∀ e∈o.after,Region.binds .any e=true->S e.on=true
theorem testBit_foldl {acc:List Nat} {i:Nat} : ∀ (l:List Edge) (s:Nat),(l.foldl (fun s e=>if Region.binds .any e then s ||| 2 ^ e.on ||| acc.getD e.on 0 else s) s).testBit i=true ->
  s.testBit i=true \/ ∃ e∈l,Region.binds .any e=true/\(e.on=i\/(acc.getD e.on 0).testBit i=true)
 | [],s,h => .inl h
 | e::r,s,h=>by
   simp only [List.foldl_cons] at h
   rcases testBit_foldl r _ h with h | ⟨e',he',h1,h2⟩
   ·split at h
    ·rename_i hb
     simp only [Nat.testBit_or,Bool.or_eq_true,Nat.testBit_two_pow] at h
     rcases h with (h | h) | h
     ·exact .inl h
     ·exact .inr ⟨e,by simp,hb,.inl (by simpa using h)⟩
     ·exact .inr ⟨e,by simp,hb,.inr h⟩
    ·exact .inl h
   ·exact .inr ⟨e',by simp [he'],h1,h2⟩
def MaskOk (ops:Array Oper) (acc:List Nat):Prop := ∀ (j:Nat) (o:Oper),j<acc.length->ops[j]?=some o -> ∀ i,(acc.getD j 0).testBit i=true -> ∀ S,Closed ops S->(∀ e∈o.after,Region.binds .any e=true->S e.on=true)->S i=true
theorem masks_ok {ops:Array Oper} : ∀ (l:List Oper) (acc:List Nat),(∀ (k:Nat),ops[acc.length+k]?=l[k]?)->MaskOk ops acc->MaskOk ops (masks l acc)
 | [],acc,_,h=>h
 | o::os,acc,hl,h=>by
   refine masks_ok os _ (fun k => ?_) ?_
   ·have:=hl (k+1);simp at this ⊢;rw [<-this];congr 1;omega
   ·intro j o' hj ho' i hi S hS hpre
    by_cases hja:j<acc.length
    ·rw [List.getD_eq_getElem?_getD,zp7 hja,<-List.getD_eq_getElem?_getD] at hi
     exact h j o' hja ho' i hi S hS hpre
    ·have hje:j=acc.length:=by simp at hj;omega
     subst hje
     have ho0:=hl 0
     simp at ho0
     rw [ho0] at ho';injection ho' with ho';subst ho'
     rw [List.getD_eq_getElem?_getD,zp8 (Nat.le_refl _)] at hi
     simp [maskOf] at hi
     rw [<-Array.foldl_toList] at hi
     rcases testBit_foldl _ _ hi with hi | ⟨e,he,hb,hi⟩
     ·simp at hi
     ·have hSe:=hpre e (by simpa using he) hb
      rcases hi with rfl | hi
      ·exact hSe
      ·have hlt:e.on<acc.length:=by
        rcases Nat.lt_or_ge e.on acc.length with h1 | h1
        ·exact h1
        ·rw [List.getD_eq_getElem?_getD,List.getElem?_eq_none h1] at hi;simp at hi
       cases hoe:ops[e.on]? with
       | none =>
         have h2:acc.length<ops.size:=(Array.getElem?_eq_some_iff.1 ho0).1
         rw [Array.getElem?_eq_getElem (by omega)] at hoe;cases hoe
       | some oe=>exact h e.on oe hlt hoe i hi S hS (fun e' he' hb'=>hS e.on oe hoe hSe e' he' hb')
def LStep (P:Program) (m:Nat) (ops:Array Oper) (i:Nat) (σ:St) (x:Rec):Prop :=
 ∀ (τ:St),(∀ t∈x.rd,τ.get t=σ.get t)->(x.hr=true->τ.heap=σ.heap)->(∀ a∈x.ho,τ.heap[a]?=σ.heap[a]?)->τ.n=σ.n->m<=τ.heap.length ->
   m<=(x.app τ).heap.length /\
   ∀ (r:Option Nat) (n:Nat) (G:Gh) (a:Act) (w:World) (Q':Exit->Act->World->Prop) (K:Act->World->Prop),Rel G τ a w ->
     (∀ G' a' w',Rel G' (x.app τ) a' w'->Ext m G w G' w'->K a' w')->wpOpIn (Wd r) n P ops Q' i K a w
inductive DSteps (P:Program) (m:Nat) (ops:Array Oper):Nat->List Oper->St->List Rec->St->Prop
 | nil (i:Nat) (σ:St):DSteps P m ops i [] σ [] σ
 | cons (i:Nat) (o:Oper) (os:List Oper) (σ σ':St) (x:Rec) (xs:List Rec) (h:LStep P m ops i σ x) (hs:DSteps P m ops (i+1) os (x.app σ) xs σ'):DSteps P m ops i (o::os) σ (x::xs) σ'
theorem DSteps.get {P:Program} {m:Nat} {ops:Array Oper} {i:Nat} {l:List Oper} {σ σ':St} {xs:List Rec} (h:DSteps P m ops i l σ xs σ') :
  xs.length=l.length/\σ'=stateOf (fun _=>true) i xs σ /\ ∀ (q:Nat) (hq:q<xs.length),LStep P m ops (i+q) (stateOf (fun k=>decide (k<i+q)) i xs σ) xs[q]:=by
 induction h with
 | nil i σ=>exact ⟨rfl,rfl,fun q hq=>by simp at hq⟩
 | cons i o os σ σ' x xs h _ ih =>
   obtain ⟨h1,h2,h3⟩:=ih
   refine ⟨by simp [h1],by simpa [stateOf] using h2,fun q hq => ?_⟩
   cases q with
   | zero =>
     have hz : ∀ (l:List Rec) (k:Nat) (τ:St),i<k->stateOf (fun k=>decide (k<i+0)) k l τ=τ:=by
      intro l
      induction l with
      | nil=>intro k τ _;rfl
      | cons y r ih =>
        intro k τ hk
        simp only [stateOf]
        rw [if_neg (by simp;omega)]
        exact ih (k+1) τ (by omega)
     simp only [stateOf]
     rw [if_neg (by simp),hz xs (i+1) σ (by omega)]
     exact h
   | succ q =>
     have:=h3 q (by simpa using hq)
     simp only [stateOf]
     rw [if_pos (by simp)]
     rw [show i+(q+1)=i+1+q by omega]
     simpa using this
theorem countP_less {p p':Nat->Bool} {i:Nat} (hp:p i=true) (hp':p' i=false) (hne : ∀ k,k≠i->p' k=p k) : ∀ (l:List Nat),l.Nodup->i∈l->l.countP p'+1=l.countP p
 | [],_,h=>by simp at h
 | k::r,hn,h=>by
   simp at hn
   simp only [List.countP_cons]
   by_cases hk:k=i
   ·subst hk
    have:r.countP p'=r.countP p:=List.countP_congr fun q hq=>by rw [hne q (by rintro rfl;exact hn.1 hq)]
    simp [hp,hp',this]
   ·have ih:=countP_less hp hp' hne r hn.2 (by simp at h;rcases h with h | h;exact absurd h.symm hk;exact h)
    rw [hne k hk];omega
theorem stateOf_false (i:Nat) : ∀ (l:List Rec) (σ:St),stateOf (fun _=>false) i l σ=σ:=by
 intro l
 induction l generalizing i with
 | nil=>intro σ;rfl
 | cons x r ih=>intro σ;simp only [stateOf];exact ih (i+1) σ
theorem AWp.regionD {P:Program} {m:Nat} {ops:Array Oper} {id:Nat} {Q:Exit->St->Prop} {σ σ':St} {xs:List Rec} (hmix:P.follows .mixedOrders=true) (hm0:m<=σ.heap.length)
  (h:DSteps P m ops 0 ops.toList σ xs σ') (hok:okOrder ops.toList (xs.map Rec.foot)=true) (hq:Q .normal σ'):AWp P m (.region id ops true) Q σ:=by
 obtain ⟨hlen,hfin,hst⟩:=h.get
 have hlen':xs.length=ops.size:=by simpa using hlen
 simp only [okOrder,zp4] at hok
 obtain ⟨hback,hpair⟩:=hok
 have hmask:MaskOk ops (masks ops.toList []):=masks_ok ops.toList [] (fun k=>by simp) (fun j o hj=>by simp at hj)
 have hbk : ∀ (j:Nat) (o:Oper),ops[j]?=some o -> ∀ e∈o.after,Region.binds .any e=true->e.on<j:=by
  have gen : ∀ (l:List Oper) (i:Nat),backOnly i l=true -> ∀ (k:Nat) (o:Oper),l[k]?=some o -> ∀ e∈o.after,Region.binds .any e=true->e.on<i+k:=by
   intro l
   induction l with
   | nil=>intro i _ k o ho;simp at ho
   | cons o' os ih =>
     intro i hb k o ho e he hbi
     simp only [backOnly,zp4,List.all_eq_true] at hb
     cases k with
     | zero =>
       simp at ho;subst ho
       have:=hb.1 e (by simpa using he)
       simp [hbi] at this;omega
     | succ k =>
       have:=ih (i+1) hb.2 k o (by simpa using ho) e he hbi
       omega
  intro j o ho e he hbi
  have:=gen ops.toList 0 hback j o (by simpa using ho) e he hbi
  omega
 have hpr : ∀ (i j:Nat) (hi:i<xs.length) (hj:j<xs.length),i<j->((masks ops.toList []).getD j 0).testBit i=true\/((xs[i]).foot.clash xs[j].foot=false/\(xs[j]).foot.clash xs[i].foot=false):=by
  intro i j hi hj hij
  simp only [pairOk,List.all_eq_true,List.mem_range,List.length_map] at hpair
  have:=hpair j hj i hij
  simp only [Bool.or_eq_true] at this
  rcases this with h | h
  ·exact .inl h
  ·right
   simpa [List.getElem?_map,zp1 hi,zp1 hj] using h
 intro r n G a w hm R
 refine wpIn_region_any hmix ?_

 have key : ∀ (fuel:Nat) (listed:Array Bool) (G1:Gh) (a:Act) (w1:World),listed.size=ops.size->Closed ops (fun k=>listed.getD k false)->(List.range ops.size).countP (fun k => !listed.getD k false)<=fuel ->
   Rel G1 (stateOf (fun k=>listed.getD k false) 0 xs σ) a w1->Ext m G w G1 w1->m<=(stateOf (fun k=>listed.getD k false) 0 xs σ).heap.length->wpAnyIn (Wd r) n P .any ops (Post m G w Q) fuel listed a w1:=by
  have hgd : ∀ (listed:Array Bool),listed.size=ops.size -> ∀ k,k<ops.size->listed.getD k true=listed.getD k false:=by
   intro listed hsz k hk
   have:k<listed.size:=by omega
   simp [Array.getD,this]
  have hall : ∀ (listed:Array Bool),listed.size=ops.size->Region.ready .any ops listed=[] -> ∀ k,k<ops.size->listed.getD k false=true:=by
   intro listed hsz hre k
   induction k using Nat.strongRecOn with
   | _ k ih =>
     intro hk
     cases hl:listed.getD k false with
     | true=>rfl
     | false =>
       have:k∈Region.ready .any ops listed:=by
        refine mem_ready.2 ⟨by rw [hgd listed hsz k hk];exact hl,ops[k],Array.getElem?_eq_getElem hk,fun e he hb => ?_⟩
        have hlt:=hbk k _ (Array.getElem?_eq_getElem hk) e he hb
        exact ih e.on hlt (by omega)
       rw [hre] at this;cases this
  have hdone : ∀ (listed:Array Bool) (G1:Gh) (a:Act) (w1:World),listed.size=ops.size->(∀ k,k<ops.size->listed.getD k false=true)->Rel G1 (stateOf (fun k=>listed.getD k false) 0 xs σ) a w1->Ext m G w G1 w1 ->
    m<=(stateOf (fun k=>listed.getD k false) 0 xs σ).heap.length->Post m G w Q .normal a w1:=by
   intro listed G1 a w1 hsz hl R1 hE hmh
   have e:stateOf (fun k=>listed.getD k false) 0 xs σ=σ':=by
    rw [hfin];exact stateOf_congr 0 xs σ (fun j _ hj=>hl j (by omega))
   rw [e] at R1 hmh
   exact ⟨σ',G1,R1,hE,by rw [<-R1.h.nh];exact hmh,hq⟩
  intro fuel
  induction fuel with
  | zero =>
    intro listed G1 a w1 hsz hcl hcnt R1 hE hmh
    have hl : ∀ k,k<ops.size->listed.getD k false=true:=by
     intro k hk
     have h0:(List.range ops.size).countP (fun k => !listed.getD k false)=0:=by omega
     have:=List.countP_eq_zero.1 h0 k (List.mem_range.2 hk)
     simpa using this
    refine ⟨?_,hdone listed G1 a w1 hsz hl R1 hE hmh⟩
    cases hre:Region.ready .any ops listed with
    | nil=>rfl
    | cons k rest =>
      have hk:k∈Region.ready .any ops listed:=by rw [hre];simp
      obtain ⟨h1,o,h2,_⟩:=mem_ready.1 hk
      have hlt:k<ops.size:=(Array.getElem?_eq_some_iff.1 h2).1
      rw [hgd listed hsz k hlt,hl k hlt] at h1;cases h1
  | succ fuel ih =>
    intro listed G1 a w1 hsz hcl hcnt R1 hE hmh
    refine ⟨fun hready=>hdone listed G1 a w1 hsz (hall listed hsz hready) R1 hE hmh,fun i hi => ?_⟩
    obtain ⟨hun,o,ho,hpre⟩:=mem_ready.1 hi
    have hlt:i<ops.size:=(Array.getElem?_eq_some_iff.1 ho).1
    rw [hgd listed hsz i hlt] at hun
    have hix:i<xs.length:=by omega
    have hpre' : ∀ e∈o.after,Region.binds .any e=true->listed.getD e.on false=true:=hpre

    have hsame:=stateOf_same (fun k=>listed.getD k false) (fun k=>decide (k<0+i)) (xs[i]).foot 0 xs σ σ (fun j hj hne=>by
     simp only [Nat.zero_add] at hne ⊢
     rcases Nat.lt_trichotomy j i with h | h | h
     ·have hlj:listed.getD j false=false:=by
       cases hh:listed.getD j false with
       | false=>rfl
       | true=>simp [hh,h] at hne
      rcases hpr j i hj hix h with hb | hb
      ·have:=hmask i o (by
        have:(masks ops.toList []).length=ops.size:=by
         have gl : ∀ (l:List Oper) (acc:List Nat),(masks l acc).length=acc.length+l.length:=by
          intro l
          induction l with
          | nil=>intro acc;simp [masks]
          | cons o os ih=>intro acc;simp [masks,ih];omega
         simpa using gl ops.toList []
        omega) ho j hb _ hcl hpre'
       rw [hlj] at this;cases this
      ·exact Foot.spares_left hb.1
     ·subst h;simp [hun] at hne
     ·have hlj:listed.getD j false=true:=by
       cases hh:listed.getD j false with
       | true=>rfl
       | false=>simp [hh] at hne;omega
      rcases hpr i j hix hj h with hb | hb
      ·have hoj:ops[j]?=some (ops[j]'(by omega)):=Array.getElem?_eq_getElem (by omega)
       have:=hmask j _ (by
        have:(masks ops.toList []).length=ops.size:=by
         have gl : ∀ (l:List Oper) (acc:List Nat),(masks l acc).length=acc.length+l.length:=by
          intro l
          induction l with
          | nil=>intro acc;simp [masks]
          | cons o os ih=>intro acc;simp [masks,ih];omega
         simpa using gl ops.toList []
        omega) hoj i hb _ hcl (fun e he hbi=>hcl j _ hoj hlj e he hbi)
       have this:listed.getD i false=true:=this
       rw [hun] at this;cases this
      ·exact Foot.spares_left hb.2) (fun _ _=>rfl) (fun _=>rfl) (fun _ _=>rfl) rfl
    have hL:=hst i hix
    simp only [Nat.zero_add] at hL hsame
    obtain ⟨hmh',hL⟩:=hL (stateOf (fun k=>listed.getD k false) 0 xs σ) hsame.1 hsame.2.1 hsame.2.2.1 hsame.2.2.2 hmh
    refine hL r n G1 a w1 _ _ R1 fun G' a' w' R' hE' => ?_
    have hset : ∀ k,k<ops.size->(listed.setIfInBounds i true).getD k false=(k == 0+i||listed.getD k false):=by
     intro k hk
     have hkl:k<listed.size:=by omega
     by_cases hki:k=i
     ·subst hki;simp [Array.getD,hkl]
     ·have : ¬ i=k:=fun e=>hki e.symm
      simp [zp5,Array.getElem?_setIfInBounds_ne this,hki]
    have hal:Alike (stateOf (fun k=>(listed.setIfInBounds i true).getD k false) 0 xs σ) ((xs[i]).app (stateOf (fun k=>listed.getD k false) 0 xs σ)):=by
     rw [stateOf_congr (S':=fun k=>k == 0+i||listed.getD k false) 0 xs σ (fun j _ hj=>hset j (by omega))]
     refine stateOf_add (fun k=>listed.getD k false) i 0 xs σ hix (by simpa using hun) (fun j hj hij hSj => ?_)
     simp only [Nat.zero_add] at hSj
     rcases hpr i j hix hj hij with hb | hb
     ·have hoj:ops[j]?=some (ops[j]'(by omega)):=Array.getElem?_eq_getElem (by omega)
      have:=hmask j _ (by
       have:(masks ops.toList []).length=ops.size:=by
        have gl : ∀ (l:List Oper) (acc:List Nat),(masks l acc).length=acc.length+l.length:=by
         intro l
         induction l with
         | nil=>intro acc;simp [masks]
         | cons o os ih=>intro acc;simp [masks,ih];omega
        simpa using gl ops.toList []
       omega) hoj i hb _ hcl (fun e he hbi=>hcl j _ hoj hSj e he hbi)
      have this:listed.getD i false=true:=this
      rw [hun] at this;cases this
     ·exact hb.1
    refine ih (listed.setIfInBounds i true) G' a' w' (by simpa using hsz) ?_ ?_ (R'.alike hal.symm) (hE.trans hE') (by rw [hal.heap];exact hmh')
    ·intro j oj hoj hSj e he hb
     have hj:j<ops.size:=(Array.getElem?_eq_some_iff.1 hoj).1
     have heon:e.on<ops.size:=Nat.lt_trans (hbk j oj hoj e he hb) hj
     simp only [hset j hj,Nat.zero_add] at hSj
     simp only [hset e.on heon,Nat.zero_add,Bool.or_eq_true]
     simp only [Bool.or_eq_true,beq_iff_eq] at hSj
     rcases hSj with rfl | hSj
     ·rw [ho] at hoj;injection hoj with hoj;subst hoj
      exact .inr (hpre' e he hb)
     ·exact .inr (hcl j oj hoj hSj e he hb)
    ·have:=countP_less (p:=fun k => !listed.getD k false) (p':=fun k => !(listed.setIfInBounds i true).getD k false) (i:=i) (by simp [hun]) (by
      have:i<listed.size:=by omega
      simp [Array.getD,this]) (fun k hk=>by
       have : ¬ i=k:=fun e=>hk e.symm
       simp [zp5,Array.getElem?_setIfInBounds_ne this]) (List.range ops.size) List.nodup_range (List.mem_range.2 hlt)
     omega
 have hrep : ∀ k,(Array.replicate ops.size false).getD k false=false:=by
  intro k
  simp only [zp5,Array.getElem?_replicate]
  split <;> rfl
 have hst0:stateOf (fun k=>(Array.replicate ops.size false).getD k false) 0 xs σ=σ:=by
  rw [stateOf_congr (S':=fun _=>false) 0 xs σ (fun j _ _=>hrep j),stateOf_false]
 refine key ops.size (Array.replicate ops.size false) G a _ (by simp) (fun j o _ hS=>by simp only [hrep] at hS;cases hS) ?_ (by rw [hst0];exact R.drew rfl) (Ext.drew (w1:=_) rfl rfl rfl) (by rw [hst0];exact hm0)
 exact Nat.le_trans List.countP_le_length (by simp)
section
variable {P:Program} {T:Types} {m:Nat} {ops:Array Oper} {an:Ann} {σ:St} {i:Nat} {o:Oper}
theorem wantA_same {τ:St} (h : ∀ t∈operSlots ops.toList o,τ.get t=σ.get t):wantA ops.toList τ o=wantA ops.toList σ o:=by
 unfold wantA
 cases hg:o.guard with
 | none=>rfl
 | some p =>
   obtain ⟨j,b⟩:=p
   simp only
   cases hd:(ops.toList[j]?).bind (·.dst) with
   | none=>rfl
   | some d =>
     have:τ.get d=σ.get d:=h d (by
      unfold operSlots
      simp only [hg,List.mem_append]
      right;rw [hd];simp)
     simp only [this]
theorem only_same {g g':Nat->AV} {rd:List Nat} (h : ∀ t∈rd,g' t=g t):only rd g'=only rd g:=by
 funext t
 unfold only
 split
 ·rename_i hc;exact h t (by simpa using hc)
 ·rfl
theorem evCore_local {A:Ar} {n:Nat} {g:Nat->AV} {H H':List Obj} {a:Nat} {ss:Sets} (hl:hoOf g o=some a) (hH:H[a]?=H'[a]?) (h:evCore A T an n g H o=some (ss,none)):evCore A T an n g H' o=some (ss,none):=by
 unfold hoOf at hl
 split at hl
 ·rename_i t i hop
  split at hl
  ·rename_i a' off hg
   cases hl
   have e1:evTail A T an n g o=none:=by
    unfold evTail
    cases o.dst with
    | none=>rfl
    | some d=>simp only [hop];split <;> rfl
   have e2 : ∀ H,evArr A T an n g H o=none:=fun H=>by unfold evArr;simp only [hop]
   have e4 : ∀ H,evCap A T an n g H o=none:=fun H=>by unfold evCap;simp only [hop]
   have e5 : ∀ H,evGro A T an n g H o=none:=fun H=>by unfold evGro;simp only [hop,hg]
   have e6 : ∀ H,evVar A T an n g H o=none:=fun H=>by unfold evVar;simp only [hop,hg]
   unfold evCore at h ⊢
   rw [e1,e4,e6,e5,e2] at h ⊢
   simp only at h ⊢
   have e3:evObj A T n g H o=evObj A T n g H' o:=by
    unfold evObj
    simp only [hop,slotE,slotAV,hg,hH]
    split <;> try rfl
    rename_i heq
    split at heq
    ·cases heq;simp only [hH]
    ·cases heq
   rw [<-e3]
   cases hob:evObj A T n g H o with
   | some r=>rw [hob] at h;exact h
   | none =>
     rw [hob] at h
     simp only at h ⊢
     unfold evBase at h ⊢
     simp only [hop,adr,hg] at h ⊢
     cases hT:T t with
     | none=>rw [hT] at h;exact h
     | some td =>
       rw [hT] at h
       simp only at h ⊢
       rw [<-hH]
       split at h <;> try (first | exact h | cases h)
       split at h <;> try (first | exact h | cases h)
       split at h
       ·exfalso
        simp only [Option.map_eq_some_iff] at h
        obtain ⟨p,_,hp⟩:=h
        cases hp
       ·rename_i hc;rw [if_neg hc];exact h
  ·cases hl
 ·cases hl
theorem LStep.op (hT:TOk P T) (ho:ops[i]?=some o) {u:Upd} (hw:wantA ops.toList σ o=some true) (he:evOp Ar.std T an ops.toList σ o=some u) :
  LStep P m ops i σ { sets:=u.sets,heap:=u.heap,rd:=u.rd,hr:=u.hr,ho:=u.ho,low:=[] }:=by
 intro τ hrd hhr hho hn hm
 have hu:=he
 unfold evOp at he
 simp only at he

 have fin : ∀ (ss:Sets) (h:Option (List Obj)) (H:List Obj),u.sets=ss->u.heap=h->u.rd=rdOf σ.get ops.toList o->(∀ (i:Nat) (ob:Obj),H[i]?=some ob->τ.heap[i]?=some ob)->(heapy an (only (rdOf σ.get ops.toList o) σ.get) o=true->H=τ.heap)->(h.isSome=true->H=τ.heap) ->
   evCore Ar.std T an τ.n (only (rdOf σ.get ops.toList o) τ.get) H o=some (ss,h) ->
   m<=(Rec.app τ { sets:=u.sets,heap:=u.heap,rd:=u.rd,hr:=u.hr,ho:=u.ho,low:=[] }).heap.length /\
   ∀ (r:Option Nat) (n:Nat) (G:Gh) (a:Act) (w:World) (Q':Exit->Act->World->Prop) (K:Act->World->Prop),Rel G τ a w ->
   (∀ G' a' w',Rel G' (Rec.app τ { sets:=u.sets,heap:=u.heap,rd:=u.rd,hr:=u.hr,ho:=u.ho,low:=[] }) a' w'->Ext m G w G' w'->K a' w')->wpOpIn (Wd r) n P ops Q' i K a w:=by
  rintro ss h H rfl rfl hrdu hH hHe hHs hev'
  have hrd' : ∀ t∈rdOf σ.get ops.toList o,τ.get t=σ.get t:=by rw [<-hrdu];exact hrd
  have e1:only (rdOf σ.get ops.toList o) τ.get=only (rdOf σ.get ops.toList o) σ.get:=only_same hrd'
  have hw':wantA ops.toList τ o=some true:=by
   rw [wantA_same (σ:=σ) (τ:=τ) (fun t ht=>hrd' t (by unfold rdOf;simp [ht]))];exact hw
  have hless:Less (only (rdOf σ.get ops.toList o) τ.get) τ:=by
   intro t
   unfold only
   split
   ·exact .inl rfl
   ·exact .inr rfl
  have hstep:=evCore_ok hT hless (fun d hd=>by
   unfold only
   rw [if_pos]
   simp [rdOf,operSlots,hd]) hH (fun hh=>hHe (by rw [e1] at hh;exact hh)) hev'
  have hlen:τ.heap.length<=(τ.upd u.sets u.heap).heap.length:=by
   cases hh:u.heap with
   | none=>exact Nat.le_refl _
   | some H' =>
     rw [hh] at hev'
     rw [hHs (by rw [hh];rfl)] at hev'
     exact evCore_len hev'
  have happ:Rec.app τ { sets:=u.sets,heap:=u.heap,rd:=u.rd,hr:=u.hr,ho:=u.ho,low:=[] }=τ.upd u.sets u.heap:=rfl
  rw [happ]
  refine ⟨Nat.le_trans hm hlen,fun r n G a w Q' K R hK => ?_⟩
  unfold wpOpIn
  simp only [ho]
  rw [if_pos (wantA_ok hw' R)]
  exact hstep r n m G a w Q' K (by rw [<-R.h.nh];exact hm) R hK
 have key : ∀ (rd:List Nat),rd=u.rd->u.rd=rdOf σ.get ops.toList o->only (rdOf σ.get ops.toList o) τ.get=only (rdOf σ.get ops.toList o) σ.get:=by
  rintro rd _ hrdu
  exact only_same (by rw [<-hrdu];exact hrd)
 split at he
 ·rename_i a hloc
  split at he
  ·rename_i ss hev
   cases he
   have e1:=key _ rfl rfl
   refine fin ss none τ.heap rfl rfl rfl (fun _ _ h=>h) (fun _=>rfl) (fun _=>rfl) ?_
   rw [e1,hn]
   exact evCore_local hloc (hho a (by simp)).symm hev
  ·rename_i ss h hev
   cases he
   have e1:=key _ rfl rfl
   refine fin ss (some h) τ.heap rfl rfl rfl (fun _ _ h=>h) (fun _=>rfl) (fun _=>rfl) ?_
   rw [e1,hn,hhr rfl]
   exact hev
  ·cases he
 ·split at he
  ·rename_i ss h hev
   split at he
   ·rename_i hcond
    cases he
    have e1:=key _ rfl rfl
    refine fin ss h (if heapy an (only (rdOf σ.get ops.toList o) σ.get) o then τ.heap else []) rfl rfl rfl (fun i ob hob => ?_) (fun hh=>by rw [if_pos hh]) (fun hs => ?_) ?_
    ·split at hob
     ·exact hob
     ·simp at hob
    ·cases h with
     | none=>cases hs
     | some H'=>rw [if_pos (by simpa using hcond)]
    ·rw [e1,hn]
     cases hh:heapy an (only (rdOf σ.get ops.toList o) σ.get) o with
     | true=>rw [if_pos rfl,hhr hh];simpa [hh] using hev
     | false=>simpa [hh] using hev
   ·cases he
  ·cases he
theorem LStep.skip (ho:ops[i]?=some o) {d:Nat} (hw:wantA ops.toList σ o=some false) (hd:o.dst=some d) (hlt:d<σ.n) (hb:(σ.get d).isBox=false) :
  LStep P m ops i σ { sets:=[(d,.tuple [])],heap:=none,rd:=operSlots ops.toList o,hr:=false,ho:=[],low:=[] }:=by
 intro τ hrd _ _ hn hm
 refine ⟨hm,fun r n G a w Q' K R hK => ?_⟩
 have hdm:d∈operSlots ops.toList o:=by simp [operSlots,hd]
 unfold wpOpIn
 simp only [ho]
 rw [wantA_ok (b:=false) (by rw [wantA_same (σ:=σ) hrd];exact hw) R,if_neg (by simp)]
 refine ⟨fun _ _=>trivial,?_⟩
 rw [hd]
 exact hK G _ w (R.put (.tuple _ _ #[] rfl (fun i hi=>by simp at hi) (fun c hc=>by simp at hc)) (fun r off e=>by cases e) (by rw [hrd d hdm];exact hb) (by rw [hn];exact hlt)) (Ext.refl _ _ _)
theorem callOf_same {τ:St} (h : ∀ t∈operSlots ops.toList o,τ.get t=σ.get t):callOf T τ o=callOf T σ o:=by
 unfold callOf
 cases hop:o.op <;> try rfl
 rename_i c
 obtain ⟨callee,args,ts⟩:=c
 cases callee with
 | value x =>
   simp only
   have hsl : ∀ t,(Operand.tmp t=x\/Operand.tmp t∈args)->τ.get t=σ.get t:=by
    intro t ht
    refine h t ?_
    unfold operSlots
    simp only [hop,Op.operands,Call.operands,List.mem_append,List.mem_flatMap]
    left;left
    rcases ht with rfl | ht
    ·exact ⟨.tmp t,by simp,by simp [slotOf]⟩
    ·exact ⟨.tmp t,by simp [ht],by simp [slotOf]⟩
   have e1 : ∀ (ps:List (Operand×TypeId)),(∀ p∈ps,p.1∈args)->(ps.mapM fun p=>opv T τ.get p.2 p.1)=ps.mapM fun p=>opv T σ.get p.2 p.1:=by
    intro ps
    induction ps with
    | nil=>intro _;rfl
    | cons p r ih =>
      intro hp
      simp only [List.mapM_cons]
      rw [ih (fun q hq=>hp q (by simp [hq]))]
      have:opv T τ.get p.2 p.1=opv T σ.get p.2 p.1:=by
       cases hp1:p.1 with
       | tmp t=>simp only [opv];rw [hsl t (.inr (by have:=hp p (by simp);rw [hp1] at this;exact this))]
       | _=>rfl
      rw [this]
   have e2:(args.toList.zip ts.toList).mapM (fun p=>opv T τ.get p.2 p.1)=(args.toList.zip ts.toList).mapM fun p=>opv T σ.get p.2 p.1:=e1 _ (fun p hp=>by
    have:=(List.of_mem_zip hp).1
    simpa using this)
   rw [e2]
   cases x with
   | tmp t=>simp only [hsl t (.inl rfl)]
   | _=>rfl
 | _=>rfl
theorem LStep.call (ho:ops[i]?=some o) {f:FuncId} {args:List AV} {r:AV} {d:Nat} (hw:wantA ops.toList σ o=some true) (hcall:callOf T σ o=some (f,args)) (hargs:inbL 0 args=true)
  (hd:o.dst=some d) (hlt:d<σ.n) (hb:(σ.get d).isBox=false) (hfr:args.all AV.free=true) (hc:ACall P f args [] r []) :
  LStep P m ops i σ { sets:=[(d,r)],heap:=none,rd:=operSlots ops.toList o,hr:=false,ho:=[],low:=[] }:=by
 intro τ hrd _ _ hn hm
 refine ⟨hm,fun rr n G a w Q' K R hK => ?_⟩
 have hdm:d∈operSlots ops.toList o:=by simp [operSlots,hd]
 have hbτ:(τ.get d).isBox=false:=by rw [hrd d hdm];exact hb
 unfold wpOpIn
 simp only [ho]
 rw [if_pos (wantA_ok (b:=true) (by rw [wantA_same (σ:=σ) hrd];exact hw) R)]
 obtain ⟨hcb,hrl,hri,hin',hHH,hcc⟩:=hc
 obtain ⟨hnd,vs,hrun,hvs,hrep⟩:=callOf_ok (T:=T) (by rw [callOf_same (σ:=σ) hrd];exact hcall) hcb R
 have RH:RelH G ([]++τ.heap) w:=R.h
 have hRh:=RH.handed (H:=[]) rfl
 have hfr' : ∀ c∈args,c.free=true:=by simpa using hfr
 have hsub:Sub G (G.handed 0) w w (fun ℓ=>ℓ = .no) 0 :=
  ⟨KLe.refl _,fun b ℓ f hl hO=>absurd (hl▸rfl) (R.h.sane.no b ℓ f hO),fun _ _=>rfl,Nat.le_refl _⟩
 refine ⟨fun _ _=>trivial,?_⟩
 rw [Oper.semAt_eq _ _ _ hnd,hrun]
 refine ⟨fun hh=>by simp [Wd] at hh,?_⟩
 refine CallsIn.mono (callsIn_wd (hcc (n-1) (G.handed 0) w vs hvs (fun i hi => ?_) hRh (fun b ℓ f hO => ?_))) ?_
 ·exact (hrep i hi).sub R.h.sane hsub rfl (inbL_get hargs i hi) (AV.free_isLocal (hfr' _ (zp6 hi)))
 ·have:=(handed_O hO).2
  cases ℓ <;> simp [objLoc] at this
 ·rintro e w' ⟨v,G3,rfl,hv,R3,hE⟩
  obtain ⟨R',hext⟩:=R.back (H:=[]) (rest:=τ.heap) rfl (.inr rfl) hHH R3 hE hin' hv hrl hri (by rw [hn];exact hlt) hbτ
  show K (a.put o.dst v) w'
  rw [hd]
  refine hK _ _ w' ?_ (hext m (by rw [<-R.h.nh];exact hm))
  simpa [Rec.app,St.upd,esets,lowOn] using R'
end
inductive OutD where
 | done (σ:St) (xs:List Rec)
 | call (f:FuncId) (args:List AV) (o:Oper) (rest:List Oper) (σ:St) (xs:List Rec)
 | yield (y:Nat) (args:List AV) (o:Oper) (rest:List Oper) (σ:St) (xs:List Rec)
 | stuck
def lowOf (σ:St) (o:Oper) (h:Option (List Obj)):Option Nat :=
 match o.op with
 | .store _ (.tmp s) _ =>
   match σ.get s,h with
   | .eptr a _ _ _,some _=>some a
   | _,_=>none
 | _=>none
def runD (A:Ar) (T:Types) (an:Ann) (all:List Oper):List Oper->St->List Rec->OutD
 | [],σ,xs => .done σ xs
 | o::os,σ,xs =>
   match wantA all σ o with
   | some true =>
     match callOf T σ o with
     | some (f,args) => .call f args o os σ xs
     | none =>
       match callY T σ o with
       | some (y,args) => .yield y args o os σ xs
       | none =>
       match evOp A T an all σ o with
       | some u =>
         match lowOf σ o u.heap with
         | some a=>runD A T an all os (σ.upd u.sets u.heap) (xs++[{ sets:=u.sets,heap:=none,rd:=u.rd,hr:=true,ho:=u.ho,low:=(u.heap.getD []).take (a+1) }])
         | none=>runD A T an all os (σ.upd u.sets u.heap) (xs++[{ sets:=u.sets,heap:=u.heap,rd:=u.rd,hr:=u.hr,ho:=u.ho,low:=[] }])
       | none => .stuck
   | some false =>
     match o.dst with
     | some d=>if decide (d<σ.n) && !(σ.get d).isBox then runD A T an all os (σ.upd [(d,.tuple [])] none) (xs++[{ sets:=[(d,.tuple [])],heap:=none,rd:=operSlots all o,hr:=false,ho:=[],low:=[] }]) else .stuck
     | none => .stuck
   | none => .stuck
def DOps (P:Program) (m:Nat) (ops:Array Oper) (l:List Oper) (xs:List Rec) (K:St->Prop) (σ:St):Prop :=
 ∃ (ys:List Rec) (σ':St),DSteps P m ops xs.length l σ ys σ'/\okOrder ops.toList ((xs++ys).map Rec.foot)=true/\K σ'
section
variable {P:Program} {T:Types} {m:Nat} {ops:Array Oper} {an:Ann} {K:St->Prop} {l:List Oper} {xs:List Rec} {σ:St}
theorem DOps.nil (hok:okOrder ops.toList (xs.map Rec.foot)=true) (h:K σ):DOps P m ops [] xs K σ:=⟨[],σ,.nil _ _,by simpa using hok,h⟩
theorem DOps.cons {o:Oper} {x:Rec} (hs:LStep P m ops xs.length σ x) (h:DOps P m ops l (xs++[x]) K (x.app σ)):DOps P m ops (o::l) xs K σ:=by
 obtain ⟨ys,σ',h1,h2,h3⟩:=h
 refine ⟨x::ys,σ',.cons _ _ _ _ _ _ _ hs (by simpa using h1),by simpa using h2,h3⟩
theorem at_drop {ops:Array Oper} {o:Oper} {l:List Oper} {k:Nat} (hl:o::l=ops.toList.drop k):ops[k]?=some o/\l=ops.toList.drop (k+1):=by
 have h0:(ops.toList.drop k)[0]?=some o:=by rw [<-hl];rfl
 simp at h0
 refine ⟨h0,?_⟩
 have:=congrArg (List.drop 1) hl
 simpa [List.drop_drop,Nat.add_comm] using this
def ResumeD (P:Program) (m:Nat) (ops:Array Oper) (T:Types) (K:St->Prop):OutD->Prop
 | .done σ xs=>okOrder ops.toList (xs.map Rec.foot)=true/\K σ
 | .call f args o rest σ xs=>callOf T σ o=some (f,args)->wantA ops.toList σ o=some true->ops[xs.length]?=some o->DOps P m ops (o::rest) xs K σ
 | .yield y args o rest σ xs=>callY T σ o=some (y,args)->wantA ops.toList σ o=some true->ops[xs.length]?=some o->DOps P m ops (o::rest) xs K σ
 | .stuck=>False
theorem evCore_storeSet {A:Ar} {an:Ann} {n:Nat} {g:Nat->AV} {H h:List Obj} {o:Oper} {t:TypeId} {s:Nat} {y:Operand} {a k:Nat} {i:Int} {j:Nat} {ss:Sets} (hop:o.op = .store t (.tmp s) y) (hg:g s = .eptr a k i j)
  (he:evCore A T an n g H o=some (ss,some h)) : ∃ ob,h=H.set a ob:=by
 have e1:evTail A T an n g o=none:=by
  unfold evTail
  cases o.dst with
  | none=>rfl
  | some d=>simp only [hop];split <;> rfl
 have e2:evArr A T an n g H o=none:=by unfold evArr;simp only [hop]
 have e4:evCap A T an n g H o=none:=by unfold evCap;simp only [hop]
 have e6:evVar A T an n g H o=none:=by unfold evVar;simp only [hop,hg]
 unfold evCore at he
 rw [e1,e4,e6] at he
 cases hG:evGro A T an n g H o with
 | some r =>
   rw [hG] at he
   simp only at he
   subst he
   unfold evGro at hG
   simp only [hop,hg] at hG
   repeat' split at hG
   all_goals first
    | (cases hG;done)
    | (cases hG;exact ⟨_,rfl⟩)
 | none =>
 rw [hG,e2] at he
 simp only at he
 have e3:slotE g H (.tmp s) = .eptr a k i j:=by simp [slotE,slotAV,hg]
 unfold evObj at he
 simp only [hop,e3] at he
 repeat' split at he
 all_goals first
  | (cases he;done)
  | (cases he;exact ⟨_,rfl⟩)
theorem app_low {u:Upd} {a:Nat} {ob:Obj} {σ τ:St} (hh:u.heap=some (σ.heap.set a ob)) (hτ:true=true->τ.heap=σ.heap) :
  Rec.app τ { sets:=u.sets,heap:=none,rd:=u.rd,hr:=true,ho:=u.ho,low:=(u.heap.getD []).take (a+1) }=τ.upd u.sets u.heap:=by
 have hτ:=hτ rfl
 unfold Rec.app
 rw [hh]
 simp only [Option.getD_some,St.upd]
 congr 1
 unfold lowOn
 rw [hτ]
 by_cases ha:a<σ.heap.length
 ·rw [show ((σ.heap.set a ob).take (a+1)).length=a+1 by simp;omega]
  have:σ.heap.drop (a+1)=(σ.heap.set a ob).drop (a+1):=by rw [List.drop_set,if_pos (by omega)]
  rw [Option.getD_none,this,List.take_append_drop]
 ·rw [List.set_eq_of_length_le (by omega),Option.getD_none,List.take_of_length_le (by omega)]
  simp
theorem LStep.low {i:Nat} {u:Upd} {a:Nat} {ob:Obj} (hh:u.heap=some (σ.heap.set a ob))
  (h:LStep P m ops i σ { sets:=u.sets,heap:=u.heap,rd:=u.rd,hr:=u.hr,ho:=u.ho,low:=[] }) :
  LStep P m ops i σ { sets:=u.sets,heap:=none,rd:=u.rd,hr:=true,ho:=u.ho,low:=(u.heap.getD []).take (a+1) }:=by
 intro τ hrd hhr hho hn hm
 have:=h τ hrd (fun _=>hhr rfl) hho hn hm
 rw [app_low hh hhr]
 exact this
theorem lowOf_set {A:Ar} {an:Ann} {all:List Oper} {o:Oper} {u:Upd} {a:Nat} (hl:lowOf σ o u.heap=some a) (he:evOp A T an all σ o=some u) : ∃ ob,u.heap=some (σ.heap.set a ob):=by
 unfold lowOf at hl
 split at hl <;> try cases hl
 rename_i t s y hop
 obtain ⟨k,i,j,h,hg,huh⟩ : ∃ k i j h,σ.get s = .eptr a k i j/\u.heap=some h:=by
  cases hg:σ.get s with
  | eptr a' k i j =>
    cases hu:u.heap with
    | none=>rw [hg,hu] at hl;cases hl
    | some h=>rw [hg,hu] at hl;cases hl;exact ⟨_,_,_,_,rfl,rfl⟩
  | _=>rw [hg] at hl;simp at hl
 clear hl
 unfold evOp at he
 simp only at he
 have hin:(only (rdOf σ.get all o) σ.get) s=σ.get s:=by
  unfold only
  rw [if_pos]
  simp [rdOf,operSlots,hop,Op.operands,slotOf]
 split at he
 ·rename_i a' hho
  simp [hoOf,hop] at hho
 ·split at he
  ·rename_i ss h' hev
   split at he
   ·rename_i hcond
    cases he
    cases h' with
    | none=>cases huh
    | some H' =>
      cases huh
      have hhr:heapy an (only (rdOf σ.get all o) σ.get) o=true:=by simpa using hcond
      rw [if_pos hhr] at hev
      obtain ⟨ob,e⟩:=evCore_storeSet hop (by rw [hin];exact hg) hev
      exact ⟨ob,by rw [e]⟩
   ·cases he
  ·cases he
theorem DOps.run (hT:TOk P T) : ∀ (l:List Oper) (xs:List Rec) (σ:St),l=ops.toList.drop xs.length->ResumeD P m ops T K (runD Ar.std T an ops.toList l σ xs)->DOps P m ops l xs K σ
 | [],xs,σ,_,h=>DOps.nil h.1 h.2
 | o::os,xs,σ,hl,h=>by
   obtain ⟨ho,hl'⟩:=at_drop hl
   unfold runD at h
   cases hw:wantA ops.toList σ o with
   | none=>simp [hw,ResumeD] at h
   | some b =>
     cases b with
     | true =>
       simp only [hw] at h
       cases hc:callOf T σ o with
       | some p =>
         obtain ⟨f,args⟩:=p
         simp only [hc] at h
         exact h hc hw ho
       | none =>
         simp only [hc] at h
         cases hy:callY T σ o with
         | some p =>
           obtain ⟨y,args⟩:=p
           simp only [hy] at h
           exact h hy hw ho
         | none =>
         simp only [hy] at h
         cases he:evOp Ar.std T an ops.toList σ o with
         | none=>simp [he,ResumeD] at h
         | some u =>
           simp only [he] at h
           cases hlo:lowOf σ o u.heap with
           | none =>
             simp only [hlo] at h
             exact DOps.cons (LStep.op hT ho hw he) (DOps.run hT os _ _ (by simpa using hl') h)
           | some a =>
             simp only [hlo] at h
             obtain ⟨ob,hh⟩:=lowOf_set hlo he
             refine DOps.cons (LStep.low hh (LStep.op hT ho hw he)) (DOps.run hT os _ _ (by simpa using hl') ?_)
             rw [app_low hh (fun _=>rfl)]
             exact h
     | false =>
       simp only [hw] at h
       cases hd:o.dst with
       | none=>simp [hd,ResumeD] at h
       | some d =>
         simp only [hd] at h
         split at h
         ·rename_i hc
          simp at hc
          exact DOps.cons (LStep.skip ho hw hd hc.1 hc.2) (DOps.run hT os _ _ (by simpa using hl') h)
         ·exact h.elim
theorem DOps.done (hT:TOk P T) {σ':St} {xs':List Rec} (hl:l=ops.toList.drop xs.length) (h : ∀ A:Ar,A=Ar.std->runD A T an ops.toList l σ xs = .done σ' xs') (hok:okOrder ops.toList (xs'.map Rec.foot)=true) (hq:K σ'):DOps P m ops l xs K σ :=
 DOps.run (an:=an) hT l xs σ hl (by rw [h _ rfl];exact ⟨hok,hq⟩)
theorem DOps.stepCall (hT:TOk P T) {f:FuncId} {args:List AV} {o:Oper} {rest:List Oper} {σ1:St} {xs1:List Rec} {r:AV} {d:Nat} (hl:l=ops.toList.drop xs.length) (h : ∀ A:Ar,A=Ar.std->runD A T an ops.toList l σ xs = .call f args o rest σ1 xs1)
  (hargs:inbL 0 args=true) (hd:o.dst=some d) (hlt:d<σ1.n) (hb:(σ1.get d).isBox=false) (hfr:args.all AV.free=true) (hc:ACall P f args [] r [])
  (k:DOps P m ops rest (xs1++[{ sets:=[(d,r)],heap:=none,rd:=operSlots ops.toList o,hr:=false,ho:=[],low:=[] }]) K (σ1.upd [(d,r)] none)):DOps P m ops l xs K σ :=
 DOps.run (an:=an) hT l xs σ hl (by
  rw [h _ rfl]
  exact fun hcall hw ho=>DOps.cons (LStep.call ho hw hcall hargs hd hlt hb hfr hc) k)
theorem AWp.regionDraw {id:Nat} {Q:Exit->St->Prop} (hmix:P.follows .mixedOrders=true) (hm:m<=σ.heap.length) (h:DOps P m ops ops.toList [] (Q .normal) σ):AWp P m (.region id ops true) Q σ:=by
 obtain ⟨ys,σ',h1,h2,h3⟩:=h
 exact AWp.regionD hmix hm h1 h2 h3
theorem AOps.stepCall (hT:TOk P T) {Q:Exit->St->Prop} {f:FuncId} {args:List AV} {o:Oper} {rest:List Oper} {σ1:St} {H Hr H':List Obj} {r:AV} {d:Nat} (h : ∀ A:Ar,A=Ar.std->runP A T an ops.toList l σ = .call f args o rest σ1)
  (hm:m<=σ.heap.length) (hH:σ1.heap=H++Hr) (hr:Hr=[]\/H'.length=H.length) (hin:objsInb H.length H=true) (hargs:inbL H.length args=true) (hd:o.dst=some d) (hlt:d<σ1.n) (hb:(σ1.get d).isBox=false)
  (hfr:args.all AV.free=true) (hc:ACall P f args H r H') (k:AOps P m ops rest Q { σ1 with env:=eset σ1.env d r,heap:=H'++Hr }):AOps P m ops l Q σ :=
 AOps.run (an:=an) hT l σ hm (by
  rw [h _ rfl]
  intro hcall hw
  refine AOps.call hw hcall hH hr hin hargs hd hlt hb hfr hc ?_
  intro r n G a w Q' hm' R hQ
  exact k r n G a w Q' hm' R (fun e a' w' hp=>by
   obtain ⟨σ',G',R',hE,hm'',hq⟩:=hp
   exact hQ e a' w' ⟨σ',G',R',hE,hm'',fun _=>hq⟩))
end
end Go.Am

namespace Go.Am
open Go
section
variable {P:Program} {T:Types} {m:Nat} {Q:Exit->St->Prop} {σ σ':St} {ops:Array Oper} {an:Ann} {id:Nat} {c:Code}
theorem AWp.reg (an:Ann) (hT:TOk P T) (h : ∀ A:Ar,A=Ar.std->runP A T an ops.toList ops.toList σ = .done σ') (hm:m<=σ.heap.length) (k:AWp P m c Q σ'):AWp P m (.seq (.region id ops false) c) Q σ :=
 AWp.seq (AWp.region (AOps.done hT (an:=an) h hm k))
theorem AWp.regD (an:Ann) (hT:TOk P T) (hmix:P.follows .mixedOrders=true) {xs:List Rec} (h : ∀ A:Ar,A=Ar.std->runD A T an ops.toList ops.toList σ [] = .done σ' xs) (hok:okOrder ops.toList (xs.map Rec.foot)=true) (hm:m<=σ.heap.length) (k:AWp P m c Q σ'):AWp P m (.seq (.region id ops true) c) Q σ :=
 AWp.seq (AWp.regionDraw hmix hm (DOps.done hT (an:=an) rfl h hok k))
theorem AWp.reg1 (an:Ann) (hT:TOk P T) (h : ∀ A:Ar,A=Ar.std->runP A T an ops.toList ops.toList σ = .done σ') (hm:m<=σ.heap.length) (k:Q .normal σ'):AWp P m (.region id ops false) Q σ :=
 AWp.region (AOps.done hT (an:=an) h hm k)
theorem AWp.reg1D (an:Ann) (hT:TOk P T) (hmix:P.follows .mixedOrders=true) {xs:List Rec} (h : ∀ A:Ar,A=Ar.std->runD A T an ops.toList ops.toList σ [] = .done σ' xs) (hok:okOrder ops.toList (xs.map Rec.foot)=true) (hm:m<=σ.heap.length) (k:Q .normal σ'):AWp P m (.region id ops true) Q σ :=
 AWp.regionDraw hmix hm (DOps.done hT (an:=an) rfl h hok k)
theorem AWp.keepThen (ts:List Nat) {K:St->Prop} (h:AWp P m c (AExit.then (fun σ=>K (σ.keep ts)) Q) σ):AWp P m c (AExit.then K Q) σ:=by
 intro r n G a w hm R
 refine wpIn_mono (h r n G a w hm R) ?_
 rintro e a' w' ⟨σ',G',R',hE,hm',hQ⟩
 cases e with
 | normal=>exact ⟨_,G',R'.keep ts,hE,hm',hQ⟩
 | _=>exact ⟨σ',G',R',hE,hm',hQ⟩
theorem AWp.loopInv {ι:Type} (Inv:ι->Prop) (μ:ι->Nat) (ts:List Nat) (S:ι->St) (i0:ι) (hσ:σ.keep ts=S i0) (h0:Inv i0)
  (h : ∀ i,Inv i->AWp P m c (AExit.then (fun σ' => ∃ j,Inv j/\μ j<μ i/\σ'.keep ts=S j) Q) (S i)):AWp P m (.loop c) Q σ:=by
 refine AWp.keep ts ?_
 rw [hσ]
 refine AWp.loop (ι:={ i:ι // Inv i }) (fun i=>μ i.1) (fun i=>S i.1) ⟨i0,h0⟩ ?_
 rintro ⟨i,hi⟩
 refine AWp.keepThen ts (AWp.mono (h i hi) ?_)
 intro e σ' hq
 cases e with
 | normal=>obtain ⟨j,hj,hl,e⟩:=hq;exact ⟨⟨j,hj⟩,hl,e⟩
 | _=>exact hq
end
end Go.Am

namespace Go.Am
open Go
theorem RepV.fewer {G:Gh} {w:World} {k:Nat} {ℓ:Loc} {av:AV} {v:Value} (h:RepV G w ℓ av v):av.inb k=true->RepV { G with nh:=k } w ℓ av v:=by
 have tail : ∀ {ℓ:Loc} {k':Nat} {v:Value},Tail G w ℓ k' v->Tail { G with nh:=k } w ℓ k' v:=fun h=>h
 induction h with
 | undef ℓ v=>exact fun _ => .undef ℓ v
 | abool ℓ b=>exact fun _ => .abool ℓ b
 | d ℓ x v h=>exact fun _ => .d ℓ x v h
 | ptr ℓ a off ha=>intro hb;simp [AV.inb] at hb;exact RepV.ptr (G:={ G with nh:=k }) ℓ a off hb
 | nilptr ℓ=>exact fun _ => .nilptr ℓ
 | iptr ℓ cs b off vs hK h1 h=>exact fun _ => .iptr ℓ cs b off vs hK h1 h
 | own ℓ k l v h ht=>exact fun _ => .own ℓ k l v h (tail ht)
 | lim ℓ k l v h ht=>exact fun _ => .lim ℓ k l v h ht
 | tail ℓ k l v h ht=>exact fun _ => .tail ℓ k l v h ht
 | func ℓ f as bs va vb ha hb _ _ hc hc' ih ih' =>
   intro hbl
   simp [AV.inb] at hbl
   exact .func ℓ f as bs va vb ha hb (fun i hi=>ih i hi (inbL_get hbl.1 i hi)) (fun i hi=>ih' i hi (inbL_get hbl.2 i hi)) hc hc'
 | nilfunc ℓ=>exact fun _ => .nilfunc ℓ
 | yield ℓ l hl=>intro hb;simp [AV.inb] at hb;exact RepV.yield (G:={ G with nh:=k }) ℓ l hb
 | map ℓ a ha=>intro hb;simp [AV.inb] at hb;exact RepV.map (G:={ G with nh:=k }) ℓ a hb
 | nilmap ℓ=>exact fun _ => .nilmap ℓ
 | lbox t cs vs e hO hw hs _ hc ih =>
   intro hbl
   simp [AV.inb] at hbl
   exact RepV.lbox (G:={ G with nh:=k }) t cs vs e hO hw hs (fun j hj=>ih j hj (inbL_get hbl j hj)) hc
 | place ℓ r off=>exact fun _=>RepV.place (G:={ G with nh:=k }) ℓ r off
 | mref ℓ a k' lo n b off cap ha h1 h2 h3 h4=>intro hb;simp [AV.inb] at hb;exact RepV.mref (G:={ G with nh:=k }) ℓ a k' lo n b off cap hb h1 h2 h3 h4
 | mcap ℓ a k' lo n c b off cap ha h1 h2 h3 h4 h5=>intro hb;simp [AV.inb] at hb;exact RepV.mcap (G:={ G with nh:=k }) ℓ a k' lo n c b off cap hb h1 h2 h3 h4 h5
 | gref ℓ a k' p ha hc hq=>intro hb;simp [AV.inb] at hb;exact RepV.gref (G:={ G with nh:=k }) ℓ a k' p hb hc hq
 | fresh ℓ k l v h=>exact fun _ => .fresh ℓ k l v h
 | junk ℓ v h=>exact fun _ => .junk ℓ v h
 | eptr ℓ a k' i j ha hi=>intro hb;simp [AV.inb] at hb;exact RepV.eptr (G:={ G with nh:=k }) ℓ a k' i j hb hi
 | vptr ℓ a k' i j m z ha hi hz hm=>intro hb;simp [AV.inb] at hb;exact RepV.vptr (G:={ G with nh:=k }) ℓ a k' i j m z hb hi hz hm
 | agg ℓ cs vs hs _ hc hf ih =>
   intro hbl
   simp [AV.inb] at hbl
   exact .agg ℓ cs vs hs (fun i hi=>ih i hi (inbL_get hbl i hi)) hc hf
 | tuple ℓ cs vs hs _ hc ih =>
   intro hbl
   simp [AV.inb] at hbl
   exact .tuple ℓ cs vs hs (fun i hi=>ih i hi (inbL_get hbl i hi)) hc
theorem RelH.fewer {G:Gh} {H:List Obj} {w:World} (R:RelH G H w) {k:Nat} (hk:k<=H.length) (hb:objsInb k (H.take k)=true):RelH { G with nh:=k } (H.take k) w:=by
 have hsub:Sub G { G with nh:=k } w w (fun _=>True) k:=⟨KLe.refl _,fun b ℓ f _ hO=>⟨hO,rfl⟩,fun _ _=>rfl,Nat.le_refl _⟩
 refine ⟨⟨R.sane.no⟩,by simp;omega,fun i ob hob => ?_,R.kept,R.disj⟩
 have hi:i<k:=by have:=(zp2.1 hob).1;simp at this;omega
 rw [List.getElem?_take_of_lt hi] at hob
 exact (R.objs i ob hob).sub R.sane hi hsub trivial (fun _=>trivial) (objsInb_get hb i ob (by rw [List.getElem?_take_of_lt hi];exact hob))
def St.fit (σ:St) (ts:List Nat) (k:Nat):St:={ σ with env:=keepE σ.env ts,heap:=σ.heap.take k }
def St.fits (σ:St) (ts:List Nat) (k:Nat):Bool:=Nat.ble k σ.heap.length&&inbL k ((keepE σ.env ts).map (·.2))&&objsInb k (σ.heap.take k)
theorem Rel.fit {G:Gh} {σ:St} {a:Act} {w:World} (R:Rel G σ a w) {ts:List Nat} {k:Nat} (h:σ.fits ts k=true):Rel { G with nh:=k } (σ.fit ts k) a w:=by
 simp only [St.fits,zp4,Nat.ble_eq] at h
 obtain ⟨⟨h1,h2⟩,h3⟩:=h
 have R':=R.keep ts
 exact ⟨R.h.fewer h1 h3,R'.size,fun t=>(R'.slots t).fewer (inbL_eget h2 t),R'.places,R'.df⟩
theorem Ext.nh {m:Nat} {G G':Gh} {w w':World} (h:Ext m G w G' w') (k:Nat):Ext m G w { G' with nh:=k } w':=⟨h.K,h.new,h.others,h.size,h.β,h.io⟩
section
variable {P:Program} {T:Types} {m:Nat} {Q:Exit->St->Prop} {σ:St} {c:Code}
theorem AWp.fit (ts:List Nat) (k:Nat) (hm:m<=k) (hf:σ.fits ts k=true) (h:AWp P m c Q (σ.fit ts k)):AWp P m c Q σ:=by
 intro r n G a w hm' R
 refine wpIn_mono (h r n _ a w hm (R.fit hf)) ?_
 rintro e a' w' ⟨σ',G',R',hE,hm'',hQ⟩
 exact ⟨σ',G',R',⟨hE.K,hE.new,hE.others,hE.size,hE.β,hE.io⟩,hm'',hQ⟩
theorem AWp.cut {x y:Code} (R:St->Prop) (h:AWp P m x (AExit.then R Q) σ) (k : ∀ σ',R σ'->AWp P m y Q σ'):AWp P m (.seq x y) Q σ:=by
 refine AWp.seq (AWp.mono h ?_)
 intro e σ' hq
 cases e with
 | normal=>exact k σ' hq
 | _=>exact hq
theorem AWp.fitThen (ts:List Nat) (k:Nat) (hm:m<=k) {K:St->Prop} (h:AWp P m c (AExit.then (fun σ=>σ.fits ts k=true/\K (σ.fit ts k)) Q) σ):AWp P m c (AExit.then K Q) σ:=by
 intro r n G a w hm' R
 refine wpIn_mono (h r n G a w hm' R) ?_
 rintro e a' w' ⟨σ',G',R',hE,hm'',hQ⟩
 cases e with
 | normal=>exact ⟨_,_,R'.fit hQ.1,hE.nh k,hm,hQ.2⟩
 | _=>exact ⟨σ',G',R',hE,hm'',hQ⟩
theorem AWp.loopH {ι:Type} (Inv:ι->Prop) (μ:ι->Nat) (ts:List Nat) (k:Nat) (S:ι->St) (i0:ι) (hm:m<=k) (hf:σ.fits ts k=true) (hσ:σ.fit ts k=S i0) (h0:Inv i0)
  (h : ∀ i,Inv i->AWp P m c (AExit.then (fun σ'=>σ'.fits ts k=true /\ ∃ j,Inv j/\μ j<μ i/\σ'.fit ts k=S j) Q) (S i)):AWp P m (.loop c) Q σ:=by
 refine AWp.fit ts k hm hf ?_
 rw [hσ]
 refine AWp.loop (ι:={ i:ι // Inv i }) (fun i=>μ i.1) (fun i=>S i.1) ⟨i0,h0⟩ ?_
 rintro ⟨i,hi⟩
 refine AWp.fitThen ts k hm (AWp.mono (h i hi) ?_)
 intro e σ' hq
 cases e with
 | normal=>obtain ⟨h1,j,hj,hl,e⟩:=hq;exact ⟨h1,⟨j,hj⟩,hl,e⟩
 | _=>exact hq
end
section
variable {P:Program} {T:Types} {m i:Nat} {ops:Array Oper} {σ:St} {o:Oper} {an:Ann}
theorem LStep.callH (ho:ops[i]?=some o) {f:FuncId} {args:List AV} {r:AV} {H rest H':List Obj} {d:Nat} (hw:wantA ops.toList σ o=some true) (hcall:callOf T σ o=some (f,args)) (hH:σ.heap=H++rest)
  (hr:rest=[]\/H'.length=H.length) (hin:objsInb H.length H=true)
  (hargs:inbL H.length args=true) (hd:o.dst=some d) (hlt:d<σ.n) (hb:(σ.get d).isBox=false) (hfr:args.all AV.free=true) (hc:ACall P f args H r H') :
  LStep P m ops i σ { sets:=[(d,r)],heap:=some (H'++rest),rd:=operSlots ops.toList o,hr:=true,ho:=[],low:=[] }:=by
 intro τ hrd hhp _ hn hm
 have hheap:τ.heap=H++rest:=(hhp rfl).trans hH
 obtain ⟨hcb,hrl,hri,hin',hHH,hcc⟩:=hc
 refine ⟨by rw [hheap] at hm;simp only [Rec.app,St.upd,Option.getD_some,List.length_append,lowOn_nil] at *;omega,fun rr n G a w Q' K R hK => ?_⟩
 have hdm:d∈operSlots ops.toList o:=by simp [operSlots,hd]
 have hbτ:(τ.get d).isBox=false:=by rw [hrd d hdm];exact hb
 unfold wpOpIn
 simp only [ho]
 rw [if_pos (wantA_ok (b:=true) (by rw [wantA_same (σ:=σ) hrd];exact hw) R)]
 obtain ⟨hnd,vs,hrun,hvs,hrep⟩:=callOf_ok (T:=T) (by rw [callOf_same (σ:=σ) hrd];exact hcall) hcb R
 have RH:RelH G (H++rest) w:=by rw [<-hheap];exact R.h
 have hRh:=RH.handed hin
 have hfr' : ∀ c∈args,c.free=true:=by simpa using hfr
 have hsub:Sub G (G.handed H.length) w w (fun ℓ=>ℓ = .no) H.length :=
  ⟨KLe.refl _,fun b ℓ f hl hO=>absurd (hl▸rfl) (R.h.sane.no b ℓ f hO),fun _ _=>rfl,Nat.le_refl _⟩
 refine ⟨fun _ _=>trivial,?_⟩
 rw [Oper.semAt_eq _ _ _ hnd,hrun]
 refine ⟨fun hh=>by simp [Wd] at hh,?_⟩
 refine CallsIn.mono (callsIn_wd (hcc (n-1) (G.handed H.length) w vs hvs (fun i hi => ?_) hRh (fun b ℓ f hO => ?_))) ?_
 ·exact (hrep i hi).sub R.h.sane hsub rfl (inbL_get hargs i hi) (AV.free_isLocal (hfr' _ (zp6 hi)))
 ·have:=(handed_O hO).2
  cases ℓ <;> simp [objLoc] at this
  ·rename_i i;exact ⟨i,rfl⟩
  ·rename_i i j;exact ⟨i,rfl⟩
 ·rintro e w' ⟨v,G3,rfl,hv,R3,hE⟩
  obtain ⟨R',hext⟩:=R.back (H:=H) (rest:=rest) hheap hr hHH R3 hE hin' hv hrl hri (by rw [hn];exact hlt) hbτ
  show K (a.put o.dst v) w'
  rw [hd]
  refine hK _ _ w' ?_ (hext m (by rw [<-R.h.nh];exact hm))
  simpa [Rec.app,St.upd,esets,lowOn] using R'
theorem pre_of_get {H:List Obj} : ∀ {τ:List Obj},(∀ a,a<H.length->τ[a]?=H[a]?) -> ∃ rest,τ=H++rest:=by
 induction H with
 | nil=>intro τ _;exact ⟨τ,rfl⟩
 | cons x H ih =>
   intro τ h
   cases τ with
   | nil=>have:=h 0 (by simp);simp at this
   | cons y τ =>
     have h0:=h 0 (by simp)
     simp at h0
     subst h0
     obtain ⟨rest,rfl⟩:=ih (τ:=τ) (fun a ha=>by have:=h (a+1) (by simp;omega);simpa using this)
     exact ⟨rest,rfl⟩
theorem LStep.callL (ho:ops[i]?=some o) {f:FuncId} {args:List AV} {r:AV} {H rest H':List Obj} {d:Nat} (hw:wantA ops.toList σ o=some true) (hcall:callOf T σ o=some (f,args)) (hH:σ.heap=H++rest)
  (hl:H'.length=H.length) (hin:objsInb H.length H=true)
  (hargs:inbL H.length args=true) (hd:o.dst=some d) (hlt:d<σ.n) (hb:(σ.get d).isBox=false) (hfr:args.all AV.free=true) (hc:ACall P f args H r H') :
  LStep P m ops i σ { sets:=[(d,r)],heap:=none,rd:=operSlots ops.toList o,hr:=false,ho:=List.range H.length,low:=H' }:=by
 intro τ hrd _ hho hn hm
 obtain ⟨rest',hheap⟩ : ∃ rest',τ.heap=H++rest':=pre_of_get (fun a ha=>by
  rw [hho a (List.mem_range.2 ha),hH,zp7 ha])
 have happ:lowOn H' τ.heap=H'++rest':=by unfold lowOn;rw [hheap,hl,List.drop_left]
 obtain ⟨hcb,hrl,hri,hin',hHH,hcc⟩:=hc
 refine ⟨by rw [app_heap];exact Nat.le_trans hm (lowOn_len _ _),fun rr n G a w Q' K R hK => ?_⟩
 have hdm:d∈operSlots ops.toList o:=by simp [operSlots,hd]
 have hbτ:(τ.get d).isBox=false:=by rw [hrd d hdm];exact hb
 unfold wpOpIn
 simp only [ho]
 rw [if_pos (wantA_ok (b:=true) (by rw [wantA_same (σ:=σ) hrd];exact hw) R)]
 obtain ⟨hnd,vs,hrun,hvs,hrep⟩:=callOf_ok (T:=T) (by rw [callOf_same (σ:=σ) hrd];exact hcall) hcb R
 have RH:RelH G (H++rest') w:=by rw [<-hheap];exact R.h
 have hRh:=RH.handed hin
 have hfr' : ∀ c∈args,c.free=true:=by simpa using hfr
 have hsub:Sub G (G.handed H.length) w w (fun ℓ=>ℓ = .no) H.length :=
  ⟨KLe.refl _,fun b ℓ f hl hO=>absurd (hl▸rfl) (R.h.sane.no b ℓ f hO),fun _ _=>rfl,Nat.le_refl _⟩
 refine ⟨fun _ _=>trivial,?_⟩
 rw [Oper.semAt_eq _ _ _ hnd,hrun]
 refine ⟨fun hh=>by simp [Wd] at hh,?_⟩
 refine CallsIn.mono (callsIn_wd (hcc (n-1) (G.handed H.length) w vs hvs (fun i hi => ?_) hRh (fun b ℓ f hO => ?_))) ?_
 ·exact (hrep i hi).sub R.h.sane hsub rfl (inbL_get hargs i hi) (AV.free_isLocal (hfr' _ (zp6 hi)))
 ·have:=(handed_O hO).2
  cases ℓ <;> simp [objLoc] at this
  ·rename_i i;exact ⟨i,rfl⟩
  ·rename_i i j;exact ⟨i,rfl⟩
 ·rintro e w' ⟨v,G3,rfl,hv,R3,hE⟩
  obtain ⟨R',hext⟩:=R.back (H:=H) (rest:=rest') hheap (.inr hl) hHH R3 hE hin' hv hrl hri (by rw [hn];exact hlt) hbτ
  show K (a.put o.dst v) w'
  rw [hd]
  refine hK _ _ w' ?_ (hext m (by rw [<-R.h.nh];exact hm))
  simpa [Rec.app,St.upd,esets,happ] using R'
variable {K:St->Prop} {l:List Oper} {xs:List Rec}
theorem DOps.stepCallH (hT:TOk P T) {f:FuncId} {args:List AV} {o:Oper} {rest:List Oper} {σ1:St} {xs1:List Rec} {r:AV} {H Hr H':List Obj} {d:Nat} (hl:l=ops.toList.drop xs.length) (h : ∀ A:Ar,A=Ar.std->runD A T an ops.toList l σ xs = .call f args o rest σ1 xs1)
  (hH:σ1.heap=H++Hr) (hr:Hr=[]\/H'.length=H.length) (hin:objsInb H.length H=true) (hargs:inbL H.length args=true) (hd:o.dst=some d) (hlt:d<σ1.n) (hb:(σ1.get d).isBox=false) (hfr:args.all AV.free=true) (hc:ACall P f args H r H')
  (k:DOps P m ops rest (xs1++[{ sets:=[(d,r)],heap:=some (H'++Hr),rd:=operSlots ops.toList o,hr:=true,ho:=[],low:=[] }]) K (σ1.upd [(d,r)] (some (H'++Hr)))):DOps P m ops l xs K σ :=
 DOps.run (an:=an) hT l xs σ hl (by
  rw [h _ rfl]
  exact fun hcall hw ho=>DOps.cons (LStep.callH ho hw hcall hH hr hin hargs hd hlt hb hfr hc) k)
theorem AOps.stepCallW (hT:TOk P T) {Q:Exit->St->Prop} {f:FuncId} {args:List AV} {o:Oper} {rest:List Oper} {σ1:St} {H':List Obj} {r:AV} {d:Nat} (h : ∀ A:Ar,A=Ar.std->runP A T an ops.toList l σ = .call f args o rest σ1)
  (hm:m<=σ.heap.length) (hin:objsInb σ1.heap.length σ1.heap=true) (hargs:inbL σ1.heap.length args=true) (hd:o.dst=some d) (hlt:d<σ1.n) (hb:(σ1.get d).isBox=false)
  (hfr:args.all AV.free=true) (hc:ACall P f args σ1.heap r H') (k:AOps P m ops rest Q { σ1 with env:=eset σ1.env d r,heap:=H' }):AOps P m ops l Q σ :=
 AOps.stepCall hT (an:=an) (Hr:=[]) h hm (List.append_nil _).symm (.inl rfl) hin hargs hd hlt hb hfr hc (by rw [List.append_nil];exact k)
end
end Go.Am

set_option linter.unusedVariables false
namespace Go.Am
open Go
def D.scalar:D->Bool
 | .int .. | .bool _ | .str _ | .nilIface=>true
 | _=>false
theorem RepD.scalar {K K':Addr->Option Value} {x:D} {v:Value} (hs:x.scalar=true) (h:RepD K x v):RepD K' x v:=by
 cases h <;> first | (simp [D.scalar] at hs;done) | constructor
def scalars (l:List D):Bool:=l.all fun x=>x.cells.all D.scalar
theorem scalars_flat {l:List D} (h:scalars l=true) : ∀ x∈D.flat l,x.scalar=true:=by
 intro x hx
 unfold D.flat at hx
 obtain ⟨y,hy,hxy⟩:=List.mem_flatMap.1 hx
 have:=List.all_eq_true.1 h y hy
 exact List.all_eq_true.1 this x hxy
theorem ACall.thaw {P:Program} {f:FuncId} {args:List AV} {k:Nat} {l:List D} (hc:ACall P f args [] (.own k l) []) (hargs:inbL 0 args=true) (hfree:args.all AV.free=true) (hl:l≠[]) (hs:scalars l=true)
  {H:List Obj} (hin:objsInb (H.length+1) (H++[.arr k l])=true) {n:Int} (hn:(l.length:Int)=n):ACall P f args H (.mref H.length k 0 n) (H++[.arr k l]):=by
 obtain ⟨h1,_,_,_,_,h⟩:=hc
 refine ⟨h1,rfl,by simp [AV.inb],by simpa using hin,by simp,?_⟩
 intro N G w vs hvs hrep R hO
 have R0:=R.handed (H:=[]) (rest:=H) rfl
 have hsub:Sub G (G.handed 0) w w (fun ℓ=>ℓ = .no) 0 :=
  ⟨KLe.refl _,fun b ℓ f hl hO=>absurd (hl▸rfl) (R.sane.no b ℓ f hO),fun _ _=>rfl,Nat.le_refl _⟩
 have hfree' : ∀ c∈args,c.free=true:=by simpa using hfree
 have hnone : ∀ b,(G.handed 0).O b=none:=fun b=>handed_none (by intro ℓ f _;cases ℓ <;> simp [objLoc])
 refine CallsIn.mono (h N (G.handed 0) w vs hvs (fun i hi=>(hrep i hi).sub R.sane hsub rfl (inbL_get hargs i hi) (AV.free_isLocal (hfree' _ (zp6 hi)))) R0 (fun b ℓ f hb=>by rw [hnone] at hb;cases hb)) ?_
 rintro e w' ⟨v,G3,rfl,hv,R3,hE⟩
 cases hv with | own _ _ _ _ hr ht =>
 rcases hr.slice with ⟨rfl,_⟩ | ⟨b,off,cap,hvv⟩
 ·exact absurd rfl hl
 have hlen:0<l.length:=List.length_pos_iff.2 hl
 have hcap:l.length<=cap:=by
  rw [hvv] at hr
  generalize hv':Value.slice (some ⟨b,off,none⟩) l.length cap=v at hr
  cases hr with
  | nil=>simp at hv'
  | none0=>simp
  | list k l b' off' cap' vs hu hc=>simp at hv';omega
 obtain ⟨fr,c,e0,t1,t2,t3,t4,t5⟩:=ht _ _ _ hvv (by omega)
 dsimp only at t1 t2 t3 t4 t5
 subst t5

 have hnew:w.heap.size<=b:=by
  rcases Nat.lt_or_ge b w.heap.size with hb | hb
  ·have:=(hE.others b hb (hnone b)).2
   rw [this] at t1;cases t1
  ·exact hb
 have hblt:b<w'.heap.size:=(Array.getElem?_eq_some_iff.1 t3).1
 have hold : ∀ b',b'<w.heap.size->w'.heap[b']?=w.heap[b']?:=fun b' hb=>(hE.others b' hb (hnone b')).1
 let G':Gh:={ K:=G.K,O:=fun x=>if x=b then some (.o H.length,0) else G.O x,β:=fun r=>if r = .o H.length then b else G.β r,nh:=H.length+1 }
 have hnh:H.length=G.nh:=R.nh
 have hβold : ∀ i,i<H.length->G'.β (.o i)=G.β (.o i):=by
  intro i hi
  simp only [G',Root.o.injEq]
  rw [if_neg (by omega)]
 have hOold : ∀ b' x f',G.O b'=some (x,f')->G'.O b'=some (x,f'):=by
  intro b' x f' h
  have:=(R.disj b' x f' h).1
  simp only [G']
  rw [if_neg (by omega)];exact h
 have hpr:Pres G G' w w' (fun _=>True) :=
  ⟨KLe.refl _,fun b' x f' _ h=>⟨hOold b' x f' h,hold b' (R.disj b' x f' h).1⟩,fun i hi=>hβold i (by omega),by simp only [G'];omega⟩
 obtain ⟨hu,hK,hKK,h1c,hh⟩:uniform k l /\ ∃ vs:Nat->Value,(∀ j,j<(D.flat l).length->G3.K ⟨b,0+j,none⟩=some (vs j))/\(∀ j,j<(D.flat l).length->(vs j).oneCell'=true) /\ ∀ (j:Nat) (hj:j<(D.flat l).length),RepD G3.K (D.flat l)[j] (vs j):=by
  rw [hvv] at hr
  generalize hv':Value.slice (some ⟨b,0,none⟩) l.length cap=v at hr
  cases hr with
  | nil=>simp at hv'
  | none0=>exact absurd rfl hl
  | list k l b' off' cap' vs hu hc hK h1 hh =>
    simp at hv'
    obtain ⟨⟨rfl,rfl⟩,_⟩:=hv'
    exact ⟨hu,vs,hK,h1,hh⟩
 have hfl:=flat_length hu
 have hsz:(D.flat l).length<=c.size:=by
  have:l.length*k<=cap*k:=Nat.mul_le_mul_right k hcap
  omega
 have hcell : ∀ j,j<(D.flat l).length->c.getD j Go.undef=hK j:=by
  intro j hj
  have:=R3.kept _ _ (hKK j hj)
  rw [Nat.zero_add] at this
  have h2:=cell_at t3 (show j<c.size by omega)
  rw [this] at h2
  exact (Option.some.inj h2).symm
 refine ⟨v,G',rfl,?_,⟨⟨fun b' ℓ f' h => ?_⟩,by simp [G'],fun i ob hob => ?_,fun x v h => ?_,fun b' ℓ f' h => ?_⟩,⟨KLe.refl _,fun x v h => .inl h,fun b' hb hO'=>⟨hold b' hb,?_⟩,hE.size,fun i hi=>hβold i hi,hE.io⟩⟩
 ·rw [hvv,<-hn]
  have:=RepV.mref (G:=G') (w:=w') .ret H.length k 0 (l.length:Int) b 0 cap (by simp [G']) (Int.le_refl _) (by omega) (by simpa using hcap) (fun _=>⟨by simp [G'],by simp⟩)
  simpa using this
 ·simp only [G'] at h
  split at h
  ·simp at h;rw [<-h.1];simp [Loc.root]
  ·exact R.sane.no b' ℓ f' h
 ·rcases Nat.lt_or_ge i H.length with hi | hi
  ·rw [zp7 hi] at hob
   exact (R.objs i ob hob).pres R.sane (by omega) hpr trivial (fun _=>trivial)
  ·have hi':i=H.length:=by
    have:=(zp2.1 hob).1
    simp at this;omega
   subst hi'
   simp at hob
   subst hob
   refine ⟨c,e0,by simp [G'],by simpa [G'] using t3,hu,hsz,fun j hj => ?_,fun j hj => ?_⟩
   ·rw [hcell j hj];exact h1c j hj
   ·rw [hcell j hj]
    exact (hh j hj).scalar (scalars_flat hs _ (zp6 hj))
 ·have hx:=R.kept x v h
  have hb:=World.block_lt_of_cell? w _ hx
  unfold World.cell? at *
  rwa [hold _ hb]
 ·simp only [G'] at h ⊢
  split at h
  ·rename_i hbe;subst hbe
   refine ⟨hblt,fun j _ => ?_⟩
   cases hK:G.K ⟨b',j,none⟩ with
   | none=>rfl
   | some v => 
     have:=World.block_lt_of_cell? w _ (R.kept _ _ hK)
     simp at this;omega
  ·have:=R.disj b' ℓ f' h
   exact ⟨by have:=hE.size;omega,this.2⟩
 ·simp only [G']
  rw [if_neg (by omega)];exact hO'
theorem Rel.freeze {G:Gh} {σ:St} {a:Act} {w:World} (R:Rel G σ a w) {s i k:Nat} {lo n:Int} {l:List D} (hs:σ.get s = .mref i k lo n) (hi:σ.heap[i]?=some (.arr k l)) (hfit:lo+n<=l.length) :
  ∃ G',Rel G' { σ with env:=eset σ.env s (.d (.list k (Ar.std.sub l lo (lo+n)))),heap:=σ.heap.set i .dead } a w /\ ∀ m,Ext m G w G' w:=by
 have hrep:=R.slots s
 rw [hs] at hrep
 generalize hv:a.tmps.getD s Go.undef=v at hrep
 cases hrep with | mref _ _ _ _ _ b off cap hnh hlo hn hcap hbo =>
 obtain ⟨vs,e,hO,hw,hu,hsz,h1,hh⟩:=R.h.objs i _ hi
 have hil:i<σ.heap.length:=(zp2.1 hi).1
 have hfl:=flat_length hu
 let B:=G.β (.o i)
 let G':Gh:={ G with K:=fun x=>if x.block=B/\x.spot=none/\x.off<(D.flat l).length then some (vs.getD x.off Go.undef) else G.K x,O:=fun x=>if x=B then none else G.O x }
 have hdisj:=R.h.disj _ _ _ hO
 have hKle:KLe G.K G'.K:=by
  intro x v h
  simp only [G']
  rw [if_neg];exact h
  rintro ⟨hb,hsp,_⟩
  obtain ⟨xb,xo,xs⟩:=x
  simp at hb hsp;subst hb hsp
  rw [hdisj.2 xo (Nat.zero_le _)] at h;cases h
 have hOold : ∀ b' x f',x ≠ .o i->G.O b'=some (x,f')->G'.O b'=some (x,f'):=by
  intro b' x f' hx h
  have:b'≠B:=by rintro rfl;rw [show G.O B=_ from hO] at h;simp at h;exact hx h.1.symm
  simp only [G'];rw [if_neg this];exact h
 have hpr:Pres G G' w w (fun x=>x ≠ .o i) :=
  ⟨hKle,fun b' x f' hx h=>⟨hOold b' x f' hx h,rfl⟩,fun _ _=>rfl,Nat.le_refl _⟩
 have hkept : ∀ x v,G'.K x=some v->w.cell? x=some v:=by
  intro x v h
  simp only [G'] at h
  split at h
  ·rename_i hc
   obtain ⟨xb,xo,xs⟩:=x
   obtain ⟨h1',h2',h3'⟩:=hc
   simp at h1' h2' h3' h
   subst h1' h2'
   rw [cell_at hw (by omega)]
   simpa using h
  ·exact R.h.kept x v h
 obtain ⟨LO,rfl⟩:=zp9 hlo
 obtain ⟨N,rfl⟩:=zp9 hn
 have hsubl:Ar.std.sub l LO (LO+N)=(l.drop LO).take N:=by
  simp only [Ar.std]
  congr 1
  all_goals omega

 have hlist:RepD G'.K (.list k ((l.drop LO).take N)) (.slice (some ⟨b,off,none⟩) N cap):=by
  by_cases hN:N=0
  ·subst hN
   simp only [List.take_zero]
   exact RepD.empty _ _ _ _ _
  ·obtain ⟨rfl,rfl⟩:=hbo (by omega)
   simp only [Int.toNat_natCast]
   have hus:=hu.sub LO N
   have hln:((l.drop LO).take N).length=N:=by simp;omega
   have hfe:D.flat ((l.drop LO).take N)=((D.flat l).drop (LO*k)).take (N*k):=by
    rw [flat_take (fun x hx=>hu x (List.mem_of_mem_drop hx)),flat_drop hu]
   have hflN:=flat_length hus
   have hmul:LO*k+N*k<=l.length*k:=by rw [<-Nat.add_mul];exact Nat.mul_le_mul_right _ (by omega)
   have hgetj : ∀ (j:Nat) (hj:j<(D.flat ((l.drop LO).take N)).length),(D.flat ((l.drop LO).take N))[j]=(D.flat l)[LO*k+j]'(by rw [hflN,hln] at hj;omega):=by
    intro j hj
    simp only [hfe,List.getElem_take,List.getElem_drop]
   have:=RepD.list (K:=G'.K) k ((l.drop LO).take N) (G.β (.o i)) (LO*k) cap (fun j=>vs.getD (LO*k+j) Go.undef) hus (by rw [hln];simpa using hcap)
    (fun j hj=>by
     rw [hflN,hln] at hj
     have hjj:LO*k+j<(D.flat l).length:=by omega
     simp [G',B,hjj])
    (fun j hj=>by rw [hflN,hln] at hj;exact h1 _ (by omega))
    (fun j hj=>by
     rw [hgetj j hj]
     rw [hflN,hln] at hj
     exact (hh _ (by omega)).mono hKle)
   rwa [hln] at this
 refine ⟨G',⟨⟨⟨fun b' x f' h => ?_⟩,by simpa [G'] using R.h.nh,fun i' ob hob => ?_,hkept,fun b' x f' h => ?_⟩,R.size,fun t => ?_,fun t r off' ht => ?_,?_⟩,fun m=>⟨hKle,fun x v h => ?_,fun b' hb h=>⟨rfl,?_⟩,Nat.le_refl _,fun _ _=>rfl,rfl,rfl,fun _ _=>rfl,rfl,Nat.le_refl _⟩⟩
 ·simp only [G'] at h
  split at h
  ·cases h
  ·exact R.h.sane.no b' x f' h
 ·by_cases hii:i=i'
  ·subst hii
   simp [List.getElem?_set_self hil] at hob
   subst hob;trivial
  ·simp only at hob
   rw [List.getElem?_set_ne hii] at hob
   exact (R.h.objs i' ob hob).pres R.h.sane (by rw [<-R.h.nh];exact (zp2.1 hob).1) hpr (by simp;exact fun e=>hii e.symm) (by simp)
 ·simp only [G'] at h ⊢
  split at h
  ·cases h
  ·rename_i hne
   refine ⟨(R.h.disj b' x f' h).1,fun j hj => ?_⟩
   rw [if_neg (by intro hc;exact hne hc.1)]
   exact (R.h.disj b' x f' h).2 j hj
 ·simp only [St.get,eget_eset]
  split
  ·rename_i e';subst e'
   rw [hv,hsubl]
   exact .d _ _ _ (by simpa using hlist)
  ·exact (R.slots t).pres R.h.sane hpr (by simp) (fun _ _ _=>rfl) (fun t' e' _=>⟨rfl,fun j=>by simp⟩)
 ·simp only [St.get,eget_eset] at ht ⊢
  split at ht
  ·cases ht
  ·obtain ⟨cs,hcs⟩:=R.places t r off' ht
   refine ⟨cs,?_⟩
   split
   ·rename_i e';subst e';rw [show σ.get s = .lbox cs from hcs] at hs;cases hs
   ·exact hcs
 ·refine ⟨R.df.1,fun x hx => ?_⟩
  obtain ⟨r0,h1,h2,h3⟩:=R.df.2 x hx
  exact ⟨r0,h1,hOold _ _ _ (by simp) h2,h3⟩
 ·simp only [G'] at h
  split at h
  ·rename_i hc;exact .inr (.inl ⟨_,by rw [hc.1];exact hO⟩)
  ·exact .inl h
 ·simp only [G'];split
  ·rfl
  ·exact h
theorem Rel.freezeBox {G:Gh} {σ:St} {a:Act} {w:World} (R:Rel G σ a w) {s:Nat} {cs:List D} (hs:σ.get s = .lbox (cs.map .d)) (hp : ∀ t off,σ.get t ≠ .place s off) :
  ∃ G',Rel G' { σ with env:=eset σ.env s (.iptr cs) } a w /\ ∀ m,Ext m G w G' w:=by
 obtain ⟨vs,e,hO,hw,hsz,hh,hcell,hat⟩:=box_rep R hs
 rw [List.length_map] at hsz
 let B:=G.β (.s s)
 let G':Gh:={ G with K:=fun x=>if x.block=B/\x.spot=none/\x.off<cs.length then some (vs.getD x.off Go.undef) else G.K x,O:=fun x=>if x=B then none else G.O x }
 have hdisj:=R.h.disj _ _ _ hO
 have hKle:KLe G.K G'.K:=by
  intro x v h
  simp only [G']
  rw [if_neg];exact h
  rintro ⟨hb,hsp,_⟩
  obtain ⟨xb,xo,xs⟩:=x
  simp at hb hsp;subst hb hsp
  rw [hdisj.2 xo (Nat.zero_le _)] at h;cases h
 have hOold : ∀ b' x f',x ≠ .s s->G.O b'=some (x,f')->G'.O b'=some (x,f'):=by
  intro b' x f' hx h
  have:b'≠B:=by rintro rfl;rw [show G.O B=_ from hO] at h;simp at h;exact hx h.1.symm
  simp only [G'];rw [if_neg this];exact h
 have hpr:Pres G G' w w (fun x=>x ≠ .s s) :=
  ⟨hKle,fun b' x f' hx h=>⟨hOold b' x f' hx h,rfl⟩,fun _ _=>rfl,Nat.le_refl _⟩
 have hkept : ∀ x v,G'.K x=some v->w.cell? x=some v:=by
  intro x v h
  simp only [G'] at h
  split at h
  ·rename_i hc
   obtain ⟨xb,xo,xs⟩:=x
   obtain ⟨h1',h2',h3'⟩:=hc
   simp at h1' h2' h3' h
   subst h1' h2'
   rw [cell_at hw (by omega)]
   simpa using h
  ·exact R.h.kept x v h
 refine ⟨G',⟨⟨⟨fun b' x f' h => ?_⟩,by simpa [G'] using R.h.nh,fun i' ob hob => ?_,hkept,fun b' x f' h => ?_⟩,R.size,fun t => ?_,fun t r off' ht => ?_,?_⟩,fun m=>⟨hKle,fun x v h => ?_,fun b' hb h=>⟨rfl,?_⟩,Nat.le_refl _,fun _ _=>rfl,rfl,rfl,fun _ _=>rfl,rfl,Nat.le_refl _⟩⟩
 ·simp only [G'] at h
  split at h
  ·cases h
  ·exact R.h.sane.no b' x f' h
 ·exact (R.h.objs i' ob hob).pres R.h.sane (by rw [<-R.h.nh];exact (zp2.1 hob).1) hpr (by simp) (by simp)
 ·simp only [G'] at h ⊢
  split at h
  ·cases h
  ·rename_i hne
   refine ⟨(R.h.disj b' x f' h).1,fun j hj => ?_⟩
   rw [if_neg (by intro hc;exact hne hc.1)]
   exact (R.h.disj b' x f' h).2 j hj
 ·simp only [St.get,eget_eset]
  split
  ·rename_i e';subst e'
   rw [hat]
   refine .iptr _ _ _ _ (fun j=>vs.getD j Go.undef) (fun j hj => ?_) (fun j hj => ?_) (fun j hj => ?_)
   ·simp [G',B,hj]
   ·exact (hh j (by simpa using hj)).oneCell (hcell _ (zp6 _))
   ·have:=hh j (by simpa using hj)
    rw [List.getElem_map] at this
    cases this with | d _ _ _ h=>exact h.mono hKle
  ·rename_i hne
   exact (R.slots t).pres R.h.sane hpr (by simp;exact fun e=>hne e.symm) (fun _ _ _=>rfl) (fun t' e' _=>⟨rfl,fun j=>by simp⟩)
 ·simp only [St.get,eget_eset] at ht ⊢
  split at ht
  ·cases ht
  ·obtain ⟨cs,hcs⟩:=R.places t r off' ht
   refine ⟨cs,?_⟩
   split
   ·rename_i e';subst e';exact absurd ht (hp t off')
   ·exact hcs
 ·refine ⟨R.df.1,fun x hx => ?_⟩
  obtain ⟨r0,h1,h2,h3⟩:=R.df.2 x hx
  exact ⟨r0,h1,hOold _ _ _ (by simp) h2,h3⟩
 ·simp only [G'] at h
  split at h
  ·rename_i hc;exact .inr (.inl ⟨_,by rw [hc.1];exact hO⟩)
  ·exact .inl h
 ·simp only [G'];split
  ·rfl
  ·exact h
def AV.placeOf (s:Nat):AV->Bool
 | .place r _=>r == s
 | _=>false
theorem noPlace {s:Nat} : ∀ {env:List (Nat×AV)},env.all (fun p => !p.2.placeOf s)=true -> ∀ t off,eget env t ≠ .place s off
 | [],_,t,off=>by simp [eget]
 | (u,v)::r,h,t,off=>by
   simp only [List.all_cons,zp4] at h
   simp only [eget]
   split
   ·rintro rfl;simp [AV.placeOf] at h
   ·exact noPlace h.2 t off
section
variable {P:Program} {m:Nat} {Q:Exit->St->Prop} {σ:St} {c:Code}
theorem AWp.freeze {s i k:Nat} {lo n:Int} {l l':List D} (hs:σ.get s = .mref i k lo n) (hi:σ.heap[i]?=some (.arr k l)) (hfit:lo+n<=l.length) (hl:Ar.std.sub l lo (lo+n)=l')
  (h:AWp P m c Q { σ with env:=eset σ.env s (.d (.list k l')),heap:=σ.heap.set i .dead }):AWp P m c Q σ:=by
 intro r n' G a w hm R
 obtain ⟨G',R',hE⟩:=R.freeze hs hi hfit
 rw [hl] at R'
 refine wpIn_mono (h r n' G' a w (by have h1:=R'.h.nh;have h2:=R.h.nh;simp at h1;omega) R') ?_
 rintro e a' w' ⟨σ',G2,R2,hE2,hm2,hQ⟩
 exact ⟨σ',G2,R2,(hE m).trans hE2,hm2,hQ⟩
theorem AWp.freezeBox (s:Nat) (cs:List D) (hs:σ.get s = .lbox (cs.map .d)) (hp:σ.env.all (fun p => !p.2.placeOf s)=true)
  (h:AWp P m c Q { σ with env:=eset σ.env s (.iptr cs) }):AWp P m c Q σ:=by
 intro r n' G a w hm R
 obtain ⟨G',R',hE⟩:=R.freezeBox hs (noPlace hp)
 refine wpIn_mono (h r n' G' a w (by have h1:=R'.h.nh;have h2:=R.h.nh;simp at h1;omega) R') ?_
 rintro e a' w' ⟨σ',G2,R2,hE2,hm2,hQ⟩
 exact ⟨σ',G2,R2,(hE m).trans hE2,hm2,hQ⟩
end
end Go.Am
