import Derived.Test.YtlljehkmemajkaaGreatAmCode
import Derived.RangeFuncRecord
import Derived.CallsIn
import Derived.Lib.BitFns
set_option linter.unusedSimpArgs false
set_option linter.unusedSectionVars false
namespace Go.Am
open Go
mutual
def AV.inb (m:Nat):AV->Bool
 | .ptr a _ | .map a | .mref a _ _ _ | .mcap a _ _ _ _ | .eptr a _ _ _ | .vptr a _ _ _ _ _ | .yield a=>decide (a<m)
 | .gref a _=>decide (a+2<m)
 | .func _ as bs=>a3k m as&&a3k m bs
 | .agg cs | .tuple cs | .lbox cs=>a3k m cs
 | _=>true
def a3k (m:Nat):List AV->Bool
 | []=>true
 | c::r=>c.inb m&&a3k m r
end
def Obj.inb (m:Nat):Obj->Bool
 | .cells cs=>a3k m cs
 | .loop L=>a3k m (L.env.map (·.2))
 | .jag _ _ (some (_,x))=>x.inb m
 | _=>true
theorem a0U {m:Nat} : ∀ {cs:List AV},a3k m cs=true -> ∀ (i:Nat) (hi:i<cs.length),cs[i].inb m=true
 | c::r,h,0,_=>by simp [a3k] at h;exact h.1
 | c::r,h,i+1,hi=>by simp [a3k] at h;exact a0U h.2 i (by simpa using hi)
theorem a5I {m:Nat} : ∀ {e:List (Nat×AV)},a3k m (e.map (·.2))=true -> ∀ t,(a1V e t).inb m=true
 | [],_,_=>rfl
 | (s,v)::r,h,t=>by
   simp [a3k] at h;simp only [a1V];split
   ·exact h.1
   exact a5I (by simpa using h.2) t
structure Sub (G G':Gh) (w w':World) (S:Loc->Prop) (m:Nat):Prop where
 K:KLe G.K G'.K
 O : ∀ (b:Nat) (ℓ:Loc) (f:Nat),S ℓ->G.O b=some (ℓ,f)->G'.O b=some (ℓ,f)/\w'.heap[b]?=w.heap[b]?
 β : ∀ a,a<m->G'.β (.o a)=G.β (.o a)
 nh:m<=G'.nh
theorem RepV.sub {G G':Gh} {w w':World} (hG:Sane G) {m:Nat} {ℓ:Loc} {av:AV} {v:Value} (h:RepV G w ℓ av v) :
  ∀ {S:Loc->Prop},Sub G G' w w' S m->S ℓ->av.inb m=true->av.isLocal=false->RepV G' w' ℓ av v:=by
 have no : ∀ {S:Loc->Prop},Sub G G' w w' S m->Sub G G' w w' (· = .no) m:=fun hp =>
  ⟨hp.K,fun b ℓ f hr hO=>absurd (hr▸rfl) (hG.no b ℓ f hO),hp.β,hp.nh⟩
 induction h with
 | undef ℓ v=>exact fun _ _ _ _ => .undef ℓ v
 | abool ℓ b=>exact fun _ _ _ _ => .abool ℓ b
 | d ℓ x v h=>exact fun hp _ _ _ => .d ℓ x v (h.mono hp.K)
 | ptr ℓ a off ha=>intro S hp _ hb _;simp [AV.inb] at hb;rw [<-hp.β a hb];exact .ptr ℓ a off (Nat.lt_of_lt_of_le hb hp.nh)
 | nilptr ℓ=>exact fun _ _ _ _ => .nilptr ℓ
 | iptr ℓ cs b off vs hK h1 h=>exact fun hp _ _ _ => .iptr ℓ cs b off vs (fun j hj=>hp.K _ _ (hK j hj)) h1 (fun j hj=>(h j hj).mono hp.K)
 | own ℓ k l v h ht =>
   intro S hp hS _ _;refine .own ℓ k l v (h.mono hp.K) ?_;intro a n cap hv hn;obtain ⟨f,c,e,h1,h2,h3,h4⟩:=ht a n cap hv hn;obtain ⟨h5,h6⟩:=hp.O _ _ _ hS h1;exact ⟨f,c,e,h5,h2,h6.trans h3,h4⟩
 | lim ℓ k l v h ht=>exact fun hp _ _ _ => .lim ℓ k l v (h.mono hp.K) ht
 | tail ℓ k l v h ht =>
   intro S hp hS _ _;refine .tail ℓ k l v (h.mono hp.K) ?_;intro a n cap hv hn;obtain ⟨f,c,e,h1,h2,h3,h4⟩:=ht a n cap hv hn;obtain ⟨h5,h6⟩:=hp.O _ _ _ hS h1;exact ⟨f,c,e,h5,h2,h6.trans h3,h4⟩
 | func ℓ f as bs va vb ha hb _ _ hc hc' ih ih' =>
   intro S hp _ hbl _;simp [AV.inb] at hbl;exact .func ℓ f as bs va vb ha hb (fun i hi=>ih i hi (no hp) rfl (a0U hbl.1 i hi) (hc _ (zp6 hi))) (fun i hi=>ih' i hi (no hp) rfl (a0U hbl.2 i hi) (hc' _ (zp6 hi))) hc hc'
 | nilfunc ℓ=>exact fun _ _ _ _ => .nilfunc ℓ
 | yield ℓ l hl=>intro S hp _ hb _;simp [AV.inb] at hb;rw [<-hp.β l hb];exact .yield ℓ l (Nat.lt_of_lt_of_le hb hp.nh)
 | map ℓ a ha=>intro S hp _ hb _;simp [AV.inb] at hb;rw [<-hp.β a hb];exact .map ℓ a (Nat.lt_of_lt_of_le hb hp.nh)
 | nilmap ℓ=>exact fun _ _ _ _ => .nilmap ℓ
 | lbox t cs vs e hO hw hs _ hc ih=>intro S _ _ _ hl;simp [AV.isLocal] at hl
 | place ℓ r off=>intro S _ _ _ hl;simp [AV.isLocal] at hl
 | mref ℓ a k lo n b off cap ha h1 h2 h3 h4=>intro S hp _ hb _;simp [AV.inb] at hb;exact .mref ℓ a k lo n b off cap (Nat.lt_of_lt_of_le hb hp.nh) h1 h2 h3 (fun h=>by rw [hp.β a hb];exact h4 h)
 | mcap ℓ a k lo n c b off cap ha h1 h2 h3 h4 h5=>intro S hp _ hb _;simp [AV.inb] at hb;exact .mcap ℓ a k lo n c b off cap (Nat.lt_of_lt_of_le hb hp.nh) h1 h2 h3 h4 (fun h=>by rw [hp.β a hb];exact h5 h)
 | gref ℓ a k p ha hc hq=>intro S hp _ hb _;simp [AV.inb] at hb;rw [<-hp.β _ hb,<-hp.β _ (by omega:a+1<_)] at hc;rw [<-hp.β _ hb,<-hp.β _ (by omega:a+1<_)];exact .gref ℓ a k p (Nat.lt_of_lt_of_le hb hp.nh) hc (fun h=>by rw [hp.β _ (by omega:a<_)];exact hq (by rw [<-hp.β _ (by omega:a+1<_)];exact h))
 | fresh ℓ k l v h=>exact fun hp hS _ _ => .fresh ℓ k l v (h.mono hp.K (fun b hO=>hp.O b ℓ 0 hS hO))
 | junk ℓ v h=>exact fun _ _ _ _ => .junk ℓ v h
 | eptr ℓ a k i j ha hi=>intro S hp _ hb _;simp [AV.inb] at hb;rw [<-hp.β a hb];exact .eptr ℓ a k i j (Nat.lt_of_lt_of_le hb hp.nh) hi
 | vptr ℓ a k i j m z ha hi hz hm=>intro S hp _ hb _;simp [AV.inb] at hb;rw [<-hp.β a hb];exact .vptr ℓ a k i j m z (Nat.lt_of_lt_of_le hb hp.nh) hi hz hm
 | agg ℓ cs vs hs _ hc hf ih =>
   intro S hp _ hbl _;simp [AV.inb] at hbl;exact .agg ℓ cs vs hs (fun i hi=>ih i hi (no hp) rfl (a0U hbl i hi) (AV.isLocal_of_isCell (hc _ (zp6 hi)))) hc hf
 | tuple ℓ cs vs hs _ hc ih =>
   intro S hp _ hbl _;simp [AV.inb] at hbl;exact .tuple ℓ cs vs hs (fun i hi=>ih i hi (no hp) rfl (a0U hbl i hi) (hc _ (zp6 hi))) hc
def Obj.three:Obj->Bool
 | .gro .. | .jag .. => true
 | _=>false
def Obj.okAt (m i:Nat) (ob:Obj):Prop:=ob.inb m=true/\(ob.three=true->i+2<m)
theorem a2c.sub {G G':Gh} {w w':World} (hG:Sane G) {i m:Nat} {ob:Obj} (h:a2c G w i ob) (hi:i<m) {S:Loc->Prop} (hp:Sub G G' w w' S m) (hS:S (.o i)) (hSc : ∀ j,S (.oc i j)) (hb:ob.okAt m i):a2c G' w' i ob:=by
 obtain ⟨hb,hbg⟩:=hb;cases ob with
 | cells cs =>
   obtain ⟨vs,e,h1,h2,h3,h4,h5⟩:=h;obtain ⟨h6,h7⟩:=hp.O _ _ _ hS h1;have hβ:=hp.β i hi;rw [<-hβ] at h2 h6 h7;exact ⟨vs,e,h6,h7.trans h2,h3,fun j hj=>(h4 j hj).sub hG hp (hSc j) (a0U hb j hj) (AV.isLocal_of_isCell (h5 _ (zp6 hj))),h5⟩
 | arr k l =>
   obtain ⟨vs,e,h1,h2,h3,h4,h8,h5⟩:=h;obtain ⟨h6,h7⟩:=hp.O _ _ _ hS h1;have hβ:=hp.β i hi;rw [<-hβ] at h2 h6 h7;exact ⟨vs,e,h6,h7.trans h2,h3,h4,h8,fun j hj=>(h5 j hj).mono hp.K⟩
 | map agg ks es =>
   obtain ⟨ms,clock,h1,h2,h3⟩:=h;obtain ⟨h6,h7⟩:=hp.O _ _ _ hS h1;have hβ:=hp.β i hi;rw [<-hβ] at h2 h6 h7;exact ⟨ms,clock,h6,h7.trans h2,h3.1.mono hp.K,h3.2⟩
 | loop L =>
   obtain ⟨fn,tmps,D,h1,h2,h3,h4,h5⟩:=h;obtain ⟨h6,h7⟩:=hp.O _ _ _ hS h1;have hβ:=hp.β i hi;rw [<-hβ] at h2 h6 h7;refine ⟨fn,tmps,D,h6,h7.trans h2,h3,fun t => ?_,h5⟩;have hl:(a1V L.env t).isLocal=false:=by
    have:=h5 t;generalize a1V L.env t=c at this;cases c <;> first | rfl | (simp [AV.free] at this)
   exact (h4 t).sub hG (⟨hp.K,fun b ℓ f hr hO=>absurd (hr▸rfl) (hG.no b ℓ f hO),hp.β,hp.nh⟩:Sub G G' w w' (· = .no) m) rfl (a5I hb t) hl
 | gro k l =>
   obtain ⟨g0,g1,g2,g3,g4⟩:=h;have g0':=hbg rfl;have b0:=hp.β i hi;have b1:=hp.β (i+1) (by omega);have b2:=hp.β (i+2) g0';refine ⟨Nat.lt_of_lt_of_le g0' hp.nh,by rw [b2];exact g1,by rw [b1];exact g2,g3,fun hc => ?_⟩;rw [b1] at hc;obtain ⟨vs,e,h1,h2,h3,h8,h5⟩:=g4 hc;obtain ⟨h6,h7⟩:=hp.O _ _ _ hS h1;rw [<-b0] at h2 h6 h7;exact ⟨vs,e,h6,h7.trans h2,by rw [b1];exact h3,h8,fun j hj=>(h5 j hj).mono hp.K⟩
 | jag k l o =>
   obtain ⟨g0,g1,g2,g3,go,g4⟩:=h;have g0':=hbg rfl;have b0:=hp.β i hi;have b1:=hp.β (i+1) (by omega);have b2:=hp.β (i+2) g0';refine ⟨Nat.lt_of_lt_of_le g0' hp.nh,by rw [b2];exact g1,by rw [b1];exact g2,g3,go,fun hc => ?_⟩;rw [b1] at hc;obtain ⟨vs,e,h1,h2,h3,h5⟩:=g4 hc;obtain ⟨h6,h7⟩:=hp.O _ _ _ hS h1;rw [<-b0] at h2 h6 h7;refine ⟨vs,e,h6,h7.trans h2,by rw [b1];exact h3,fun j hj => ?_⟩;obtain ⟨l',hx⟩:=g3 _ (zp6 hj);refine (h5 j hj).sub hG hp (hSc j) ?_ (a3B hx go).1;rw [hx];unfold b1K;split
   ·rename_i t x;split
    ·exact hb
    simp [frA,AV.inb]
   simp [frA,AV.inb]
 | dead=>trivial
def a0s (m:Nat):List Obj->Bool
 | []=>true
 | o::r=>o.inb m&&(match o with | .gro .. => Nat.ble 2 r.length | .jag .. => Nat.ble 2 r.length | _=>true)&&a0s m r
def callable (P:Program) (f:FuncId):Bool :=
 match P.funcs[f]? with
 | some fn=>fn.name != "runtime.NumGoroutine" && fn.body.isSome
 | none=>false
def a0e (P:Program) (f:FuncId) (args:List AV) (H:List Obj) (r:AV) (H':List Obj):Prop :=
 callable P f=true/\r.isLocal=false/\r.inb H'.length=true/\a0s H'.length H'=true/\H.length<=H'.length /\ ∀ (n:Nat) (G:Gh) (w:World) (vs:Array Value),vs.size=args.length->(∀ (i:Nat) (hi:i<args.length),RepV G w .no args[i] (vs.getD i Go.undef))->RelH G H w ->
  (∀ b ℓ f,G.O b=some (ℓ,f) -> ∃ i,ℓ.root = .o i) ->
  CallsIn (Wd none) n P f vs w (fun e w' => ∃ v G',e = .returned v/\RepV G' w' .ret r v/\RelH G' H' w'/\Ext H.length G w G' w')
def a7l:Nat->List AV->List (Nat×AV)
 | _,[]=>[]
 | i,v::r=>(i,v)::a7l (i+1) r
theorem a4C : ∀ (args:List AV) (i t:Nat),a1V (a7l i args) t=if i<=t/\t<i+args.length then args.getD (t-i) .undef else .undef
 | [],i,t=>by simp [a7l,a1V]
 | v::r,i,t=>by
   simp only [a7l,a1V,List.length_cons];by_cases h:i=t
   ·subst h;simp
   rw [if_neg h,a4C r (i+1) t];by_cases h2:i+1<=t/\t<i+1+r.length
   ·rw [if_pos h2,if_pos (by omega),show t-i=(t-(i+1))+1 by omega];simp
   rw [if_neg h2,if_neg (by omega)]
def a4i (T:a0i) (σ:St) (own:Bool):ResultVar->Option AV
 | .tmp t=>match σ.get t with
   | .lbox _ | .place .. | .fresh .. => none
   | .lim k l=>some (.d (.list k l))
   | .tail k l=>some (.d (.list k l))
   | v=>some (if own then v else v.copy)
 | .cell t ty=>match σ.get t,T ty with
   | .lbox cs,some td=>a0O td cs 0
   | .ptr i off,some td=>match σ.heap[i]? with
     | some (.cells cs)=>a0O td cs off
     | some (.arr _ l)=>if off=0/\td.isAgg=true/\l.length=td.size/\l.all D.isOne=true then some (.d (.agg l)) else none
     | _=>none
   | _,_=>none
def b5H (T:a0i) (σ:St):List ResultVar->Option AV
 | [x]=>a4i T σ true x
 | l=>(l.mapM (a4i T σ false)).map .tuple
def a8w (T:a0i) (fn:Func) (m:Nat) (r:AV) (H':List Obj):Exit->St->Prop
 | .normal,σ | .ret,σ=>b5H T σ fn.results.toList=some r/\r.inb H'.length=true/\a0s H'.length H'=true/\m<=H'.length /\ ∃ junk,σ.heap=H'++junk
 | _,_=>False
def a1h (m:Nat):Loc->Bool
 | .o i | .oc i _=>decide (i<m)
 | _=>false
def Gh.handed (G:Gh) (m:Nat):Gh :=
 { K:=G.K,β:=G.β,nh:=m
   O:=fun b=>match G.O b with
    | some (ℓ,f)=>if a1h m ℓ then some (ℓ,f) else none
    | none=>none }
theorem a2n {G:Gh} {m b:Nat} {ℓ:Loc} {f:Nat} (h:(G.handed m).O b=some (ℓ,f)):G.O b=some (ℓ,f)/\a1h m ℓ=true:=by
 simp only [Gh.handed] at h;split at h
 ·split at h
  ·rename_i ℓ' f' hO hl;simp at h;obtain ⟨rfl,rfl⟩:=h;exact ⟨hO,hl⟩
  cases h
 cases h
theorem a3c {G:Gh} {m b:Nat} (h : ∀ ℓ f,G.O b=some (ℓ,f)->a1h m ℓ=false):(G.handed m).O b=none:=by
 simp only [Gh.handed];split
 ·rename_i ℓ f hO;rw [h ℓ f hO];rfl
 rfl
theorem a5J {m:Nat} : ∀ {H:List Obj},a0s m H=true -> ∀ (i:Nat) (ob:Obj),H[i]?=some ob->ob.inb m=true
 | o::r,h,0,ob,e=>by simp only [a0s,zp4] at h;simp at e;subst e;exact h.1.1
 | o::r,h,i+1,ob,e=>by simp only [a0s,zp4] at h;exact a5J h.2 i ob (by simpa using e)
theorem a5K {m:Nat} : ∀ {H:List Obj},a0s m H=true -> ∀ (i:Nat) (ob:Obj),H[i]?=some ob->ob.three=true->i+2<H.length
 | o::r,h,0,ob,e,ht=>by
   simp at e;subst e;simp only [a0s,zp4] at h;cases o <;> simp only [Obj.three] at ht <;> first | (cases ht;done) | (have:=Nat.le_of_ble_eq_true h.1.2;simp;omega)
 | o::r,h,i+1,ob,e,ht=>by simp only [a0s,zp4] at h;have:=a5K h.2 i ob (by simpa using e) ht;simp;omega
theorem a3d {m:Nat} {H:List Obj} (h:a0s m H=true) (i:Nat) (ob:Obj) (e:H[i]?=some ob) (hl:H.length<=m:=by first | exact Nat.le_refl _ | (simp;done) | (simp;omega) | omega):ob.okAt m i :=
 ⟨a5J h i ob e,fun ht=>Nat.lt_of_lt_of_le (a5K h i ob e ht) hl⟩
theorem RelH.handed {G:Gh} {H rest:List Obj} {w:World} (R:RelH G (H++rest) w) (hc:a0s H.length H=true):RelH (G.handed H.length) H w:=by
 have hm:H.length<=G.nh:=by rw [<-R.nh];simp
 have hsub:Sub G (G.handed H.length) w w (fun ℓ=>a1h H.length ℓ=true) H.length :=
  ⟨KLe.refl _,fun b ℓ f hl hO=>⟨by simp [Gh.handed,hO,hl],rfl⟩,fun _ _=>rfl,Nat.le_refl _⟩
 refine ⟨⟨fun b ℓ f h=>R.sane.no b ℓ f (a2n h).1⟩,rfl,fun i ob hob => ?_,R.kept,fun b ℓ f h=>R.disj b ℓ f (a2n h).1⟩;have hi:i<H.length:=(zp2.1 hob).1;exact (R.objs i ob (by rw [zp7 hi];exact hob)).sub R.sane hi hsub (by simp [a1h,hi]) (fun j=>by simp [a1h,hi]) (a3d hc i ob hob)
def Gh.foreign (G:Gh) (m b:Nat):Bool :=
 match G.O b with
 | some (ℓ,_) => !a1h m ℓ
 | none=>false
def Gh.back (G G3:Gh) (m k d q:Nat):Gh :=
 { K:=G3.K
   O:=fun b=>if G.foreign m b then G.O b else
    match G3.O b with
    | some (ℓ,f)=>if a1h k ℓ then some (ℓ,f) else if ℓ = .ret then some (.s d,f) else none
    | none=>none
   β:=fun
    | .o i=>if i<k then G3.β (.o i) else G.β (.o i)
    | r=>G.β r
   nh:=k+q }
theorem b6T {G G3:Gh} {m k d q b:Nat} {ℓ:Loc} {f:Nat} (h:(G.back G3 m k d q).O b=some (ℓ,f)) :
  (G.foreign m b=true/\G.O b=some (ℓ,f))\/(G.foreign m b=false /\ ∃ ℓ',G3.O b=some (ℓ',f)/\((a1h k ℓ'=true/\ℓ=ℓ')\/(ℓ' = .ret/\ℓ = .s d))):=by
 simp only [Gh.back] at h;split at h
 ·rename_i hf;exact .inl ⟨hf,h⟩
 rename_i hf;refine .inr ⟨by simpa using hf,?_⟩;split at h
 ·rename_i ℓ' f' hO;split at h
  ·rename_i hl;simp at h;obtain ⟨rfl,rfl⟩:=h;exact ⟨_,hO,.inl ⟨hl,rfl⟩⟩
  split at h
  ·rename_i hr;simp at h;obtain ⟨rfl,rfl⟩:=h;exact ⟨_,hO,.inr ⟨hr,rfl⟩⟩
  cases h
 cases h
theorem Rel.backO {G G3:Gh} {σ:St} {a:Act} {w w':World} (R:Rel G σ a w) {H rest H':List Obj} (hH:σ.heap=H++rest) (hr:rest=[]\/H'.length=H.length) (hHH:H.length<=H'.length)
  (R3:RelH G3 H' w') (hE:Ext H.length (G.handed H.length) w G3 w') (hin:a0s H'.length H'=true) {d:Option Nat} {r:AV} {v:Value} (hv:RepV G3 w' .ret r v) (hrl:r.isLocal=false) (hri:r.inb H'.length=true)
  (hd : ∀ x,d=some x->x<σ.n/\(σ.get x).isBox=false) :
  Rel (G.back G3 H.length H'.length (d.getD 0) rest.length) { σ with env:=(match d with | some x=>a2A σ.env x r | none=>σ.env),heap:=H'++rest } (a.put d v) w' /\
   ∀ m,m<=G.nh->Ext m G w (G.back G3 H.length H'.length (d.getD 0) rest.length) w':=by
 let Gf:=G.back G3 H.length H'.length (d.getD 0) rest.length;have hnh:G.nh=H.length+rest.length:=by rw [<-R.h.nh,hH];simp

 have hfor : ∀ b ℓ f,G.O b=some (ℓ,f)->a1h H.length ℓ=false->Gf.O b=some (ℓ,f)/\w'.heap[b]?=w.heap[b]?/\G3.O b=none:=by
  intro b ℓ f hO hl;have hc:(G.handed H.length).O b=none:=a3c fun ℓ' f' h'=>by rw [hO] at h';simp at h';obtain ⟨rfl,_⟩:=h';exact hl
  obtain ⟨h1,h2⟩:=hE.others b (R.h.disj b ℓ f hO).1 hc;refine ⟨?_,h1,h2⟩;have:G.foreign H.length b=true:=by simp [Gh.foreign,hO,hl]
  simp only [Gf,Gh.back,this,if_true,hO]

 have hback : ∀ b ℓ f,G3.O b=some (ℓ,f)->(a1h H'.length ℓ=true->Gf.O b=some (ℓ,f))/\(ℓ = .ret->Gf.O b=some (.s (d.getD 0),f)):=by
  intro b ℓ f hO;have hnf:G.foreign H.length b=false:=by
   cases hG:G.O b with
   | none=>simp [Gh.foreign,hG]
   | some p =>
     obtain ⟨ℓ',f'⟩:=p;cases hl:a1h H.length ℓ' with
     | true=>simp [Gh.foreign,hG,hl]
     | false=>rw [(hfor b ℓ' f' hG hl).2.2] at hO;cases hO
  constructor
  ·intro hl;simp only [Gf,Gh.back,hnf,hO];simp [hl]
  rintro rfl;simp only [Gf,Gh.back,hnf,hO];simp [a1h]
 have hβ : ∀ i,i<G.nh->Gf.β (.o i)=G.β (.o i):=by
  intro i hi;simp only [Gf,Gh.back];split
  ·rename_i hk;rcases Nat.lt_or_ge i H.length with h | h
   ·exact hE.β i h
   rcases hr with rfl | hr
   ·simp at hnh;omega
   omega
  rfl
 have hp1:Pres G Gf w w' (fun ℓ=>a1h H.length ℓ=false) :=
  ⟨hE.K,fun b ℓ f hl hO=>⟨(hfor b ℓ f hO hl).1,(hfor b ℓ f hO hl).2.1⟩,hβ,by simp only [Gf,Gh.back];omega⟩
 have hp2:Sub G3 Gf w' w' (fun ℓ=>a1h H'.length ℓ=true) H'.length :=
  ⟨KLe.refl _,fun b ℓ f hl hO=>⟨(hback b ℓ f hO).1 hl,rfl⟩,fun i hi=>by simp [Gf,Gh.back,hi],by simp [Gf,Gh.back]⟩
 have hslots : ∀ t,RepV Gf w' (.s t) (σ.get t) (a.tmps.getD t Go.undef):=fun t=>(R.slots t).pres R.h.sane hp1 rfl (fun _ _ _=>rfl) (fun _ _ _=>⟨rfl,fun j=>rfl⟩);refine ⟨⟨⟨⟨fun b ℓ f h => ?_⟩,by simp [Gf,Gh.back],fun i ob hob => ?_,R3.kept,fun b ℓ f h => ?_⟩,by cases d <;> simpa [Act.put] using R.size,?_,?_,?_⟩,fun m hm => ?_⟩
 ·rcases b6T h with ⟨_,hO⟩ | ⟨_,ℓ',hO,⟨hl,rfl⟩ | ⟨rfl,rfl⟩⟩
  ·exact R.h.sane.no b ℓ f hO
  ·exact R3.sane.no b ℓ f hO
  simp [Loc.root]
 ·rcases Nat.lt_or_ge i H'.length with hi | hi
  ·simp only [zp7 hi] at hob;exact (R3.objs i ob hob).sub R3.sane hi hp2 (by simp [a1h,hi]) (fun j=>by simp [a1h,hi]) (a3d hin i ob hob)
  simp only [zp8 hi] at hob;have hlen:H'.length=H.length:=by
   rcases hr with rfl | hr
   ·simp at hob
   exact hr
  have hob':σ.heap[i]?=some ob:=by rw [hH,zp8 (by omega),<-hlen];exact hob
  exact (R.h.objs i ob hob').pres R.h.sane (by rw [<-R.h.nh];exact (zp2.1 hob').1) hp1 (by simp [a1h];omega) (fun j=>by simp [a1h];omega)
 ·rcases b6T h with ⟨hf,hO⟩ | ⟨_,ℓ',hO,_⟩
  ·obtain ⟨h1,h2⟩:=R.h.disj b ℓ f hO;refine ⟨Nat.lt_of_lt_of_le h1 hE.size,fun j hj => ?_⟩;have hl:a1h H.length ℓ=false:=by simpa [Gh.foreign,hO] using hf
   cases hK:Gf.K ⟨b,j,none⟩ with
   | none=>rfl
   | some x =>
     rcases hE.new ⟨b,j,none⟩ x hK with h3 | ⟨p,h3⟩ | h3
     ·rw [show (G.handed H.length).K=G.K from rfl,h2 j hj] at h3;cases h3
     ·obtain ⟨ℓ',f'⟩:=p;obtain ⟨h4,h5⟩:=a2n h3;rw [hO] at h4;simp at h4;obtain ⟨rfl,_⟩:=h4;rw [hl] at h5;cases h5
     simp at h3;omega
  exact R3.disj b ℓ' f hO
 ·intro t;cases d with
  | none=>exact hslots t
  | some d =>
  obtain ⟨hlt,hb⟩:=hd d rfl;have hd':d<a.tmps.size:=by rw [R.size];exact hlt
  simp only [Act.put,a1q _ _ _ _ hd',St.get,a0d];split
  ·rename_i e;subst e;by_cases hfree:r.free=true
   ·exact ((hv.anywhere hfree .no).sub R3.sane (⟨KLe.refl _,fun b ℓ f hl hO=>absurd (hl▸rfl) (R3.sane.no b ℓ f hO),hp2.β,hp2.nh⟩:Sub G3 Gf w' w' (fun ℓ=>ℓ = .no) H'.length) rfl hri hrl).anywhere hfree _
   cases r <;> first | (simp [AV.free] at hfree;done) | (simp [AV.isLocal] at hrl;done) | skip
   ·cases hv with | own _ k l v h ht =>
    refine .own _ _ _ _ h ?_;intro a' n cap e hn;obtain ⟨f,c,e',h1,h2,h3,h4⟩:=ht a' n cap e hn;exact ⟨f,c,e',(hback _ _ _ h1).2 rfl,h2,h3,h4⟩
   ·cases hv with | lim _ k l v h ht =>
    exact .lim _ _ _ _ h ht
   ·cases hv with | tail _ k l v h ht =>
    refine .tail _ _ _ _ h ?_;intro a' n cap e hn;obtain ⟨f,c,e',h1,h2,h3,h4⟩:=ht a' n cap e hn;exact ⟨f,c,e',(hback _ _ _ h1).2 rfl,h2,h3,h4⟩
   cases hv with | fresh _ k l v h =>
   exact .fresh _ _ _ _ (h.mono (KLe.refl _) (fun b hO=>⟨(hback _ _ _ hO).2 rfl,rfl⟩))
  exact hslots t
 ·intro t r' off ht;cases d with
  | none=>exact R.places t r' off ht
  | some d =>
  obtain ⟨hlt,hb⟩:=hd d rfl;simp only [St.get,a0d] at ht ⊢;split at ht
  ·subst ht;simp [AV.isLocal] at hrl
  obtain ⟨cs,hcs⟩:=R.places t r' off ht;refine ⟨cs,?_⟩;split
  ·rename_i e;subst e;rw [hcs] at hb;simp [AV.isBox] at hb
  exact hcs
 ·have hdf:(a.put d v).defers=a.defers:=by cases d <;> rfl
  rw [hdf];refine ⟨R.df.1,fun x hx => ?_⟩;obtain ⟨r0,h1,h2,h3⟩:=R.df.2 x hx;obtain ⟨h4,h5,_⟩:=hfor _ _ _ h2 rfl;exact ⟨r0,h1,h4,h5.trans h3⟩
 refine ⟨hE.K,fun x v hx => ?_,fun b hb hO => ?_,hE.size,fun i hi=>hβ i (by omega),hE.io⟩
 ·rcases hE.new x v hx with h | ⟨p,h⟩ | h
  ·exact .inl h
  ·obtain ⟨ℓ,f⟩:=p;exact .inr (.inl ⟨_,(a2n h).1⟩)
  exact .inr (.inr h)
 have hc:(G.handed H.length).O b=none:=a3c fun ℓ f h=>by rw [hO] at h;cases h
 obtain ⟨h1,h2⟩:=hE.others b hb hc;refine ⟨h1,?_⟩;have:G.foreign H.length b=false:=by simp [Gh.foreign,hO]
 simp [Gh.back,this,h2]
theorem Rel.back {G G3:Gh} {σ:St} {a:Act} {w w':World} (R:Rel G σ a w) {H rest H':List Obj} (hH:σ.heap=H++rest) (hr:rest=[]\/H'.length=H.length) (hHH:H.length<=H'.length)
  (R3:RelH G3 H' w') (hE:Ext H.length (G.handed H.length) w G3 w') (hin:a0s H'.length H'=true) {d:Nat} {r:AV} {v:Value} (hv:RepV G3 w' .ret r v) (hrl:r.isLocal=false) (hri:r.inb H'.length=true)
  (hlt:d<σ.n) (hb:(σ.get d).isBox=false) :
  Rel (G.back G3 H.length H'.length d rest.length) { σ with env:=a2A σ.env d r,heap:=H'++rest } (a.put (some d) v) w' /\
   ∀ m,m<=G.nh->Ext m G w (G.back G3 H.length H'.length d rest.length) w':=by
 have:=R.backO (d:=some d) hH hr hHH R3 hE hin hv hrl hri (fun x e=>by cases e;exact ⟨hlt,hb⟩);exact this
theorem a4D {r:Option Nat} {n:Nat} {P:Program} {f:FuncId} {args:Array Value} {w:World} {R:Ending->World->Prop} (h:CallsIn (Wd none) n P f args w R):CallsIn (Wd r) n P f args w R:=h
def a2x (T:a0i) (σ:St) (o:Oper):Option (FuncId×List AV) :=
 match o.op with
 | .call { callee := .value x,args,argTypes } =>
   match (match x with | .func f=>some (f,[],[]) | .tmp t=>(match σ.get t with | .func f as bs=>some (f,as,bs) | _=>none) | _=>none),((args.toList.zip argTypes.toList).mapM fun p=>opv T σ.get p.2 p.1) with
   | some (f,as,bs),some vs=>if args.size=argTypes.size then some (f,as++vs.map AV.copy++bs) else none
   | _,_=>none
 | .call { callee := .invoke (.tmp t) name,args,argTypes } =>
   match σ.get t with
   | .d (.iface z) =>
     match T z.toNat with
     | some { u := .meth ms,.. } =>
       match b2I ms name,((args.toList.zip argTypes.toList).mapM fun p=>opv T σ.get p.2 p.1) with
       | some f,some vs=>if args.size=argTypes.size/\0<=z then some (f,[.d (.agg [])]++vs.map AV.copy) else none
       | _,_=>none
     | _=>none
   | _=>none
 | _=>none
theorem mapM_some {α β:Type} {f:α->Option β} : ∀ {xs:List α} {ys:List β},xs.mapM f=some ys->ys.length=xs.length /\ ∀ (i:Nat) (hi:i<xs.length) (hi':i<ys.length),f xs[i]=some ys[i]
 | [],ys,h=>by simp at h;subst h;exact ⟨rfl,fun i hi=>by simp at hi⟩
 | x::r,ys,h=>by
   simp only [List.mapM_cons,Option.bind_eq_bind,Option.bind_eq_some_iff,Option.pure_def,zp3] at h;obtain ⟨v,hv,l',hl',rfl⟩:=h;obtain ⟨e1,e2⟩:=mapM_some hl';refine ⟨by simp [e1],fun i hi hi' => ?_⟩;cases i with
   | zero=>exact hv
   | succ i=>exact e2 i (by simpa using hi) (by simpa using hi')
theorem a2O {G:Gh} {w:World} {A B:List AV} {va vb:Array Value} (ha:va.size=A.length) (hb:vb.size=B.length) (h1 : ∀ (i:Nat) (hi:i<A.length),RepV G w .no A[i] (va.getD i Go.undef))
  (h2 : ∀ (i:Nat) (hi:i<B.length),RepV G w .no B[i] (vb.getD i Go.undef)):(va++vb).size=(A++B).length /\ ∀ (i:Nat) (hi:i<(A++B).length),RepV G w .no (A++B)[i] ((va++vb).getD i Go.undef):=by
 refine ⟨by simp [ha,hb],fun i hi => ?_⟩;simp at hi;by_cases c:i<A.length
 ·rw [List.getElem_append_left c];simpa [zp5,Array.getElem?_append_left (show i<va.size by omega)] using h1 i c
 rw [List.getElem_append_right (by omega)];have:=h2 (i-A.length) (by omega);simpa [zp5,Array.getElem?_append_right (show va.size<=i by omega),ha] using this
theorem a5l (σ:St):Less σ.get σ:=fun _ => .inl rfl
section
variable {P:Program} {T:a0i} {m:Nat} {Q:Exit->St->Prop} {σ:St} {ops:Array Oper} {o:Oper} {l:List Oper}
theorem a5L (hT:TOk P T) {f:FuncId} {args:List AV} (h:a2x T σ o=some (f,args)) (hc:callable P f=true) {G:Gh} {a:Act} {w:World} (R:Rel G σ a w) :
  (∀ c,o.op ≠ .defer c) /\ ∃ vs:Array Value,(execOp a.eval o).run P w = .ok (.enter f vs) w/\vs.size=args.length /\ ∀ (i:Nat) (hi:i<args.length),RepV G w .no args[i] (vs.getD i Go.undef):=by
 unfold a2x at h;split at h
 ·rename_i x xs ts hop;refine ⟨by simp [hop],?_⟩;split at h
  ·rename_i f' as bs vs hfn hvs;split at h
   ·rename_i hsz;simp at h;obtain ⟨rfl,rfl⟩:=h;obtain ⟨e1,e2⟩:=mapM_some hvs

    have hfv : ∃ va vb:Array Value,a.eval x = .func (.func f') va vb/\va.size=as.length/\vb.size=bs.length /\
      (∀ (i:Nat) (hi:i<as.length),RepV G w .no as[i] (va.getD i Go.undef)) /\ ∀ (i:Nat) (hi:i<bs.length),RepV G w .no bs[i] (vb.getD i Go.undef):=by
     cases x with
     | func q =>
       simp at hfn;obtain ⟨rfl,rfl,rfl⟩:=hfn;exact ⟨#[],#[],rfl,rfl,rfl,fun i hi=>by simp at hi,fun i hi=>by simp at hi⟩
     | tmp t =>
       simp only at hfn;split at hfn
       ·rename_i f'' as' bs' hg;simp at hfn;obtain ⟨rfl,rfl,rfl⟩:=hfn;have hrep:=R.slots t;rw [hg] at hrep;show ∃ va vb:Array Value,a.tmps.getD t Go.undef=_/\_;generalize a.tmps.getD t Go.undef=v at hrep;cases hrep with | func _ _ _ _ va vb ha hb h1 h2 _ _=>exact ⟨va,vb,rfl,ha,hb,h1,h2⟩
       cases hfn
     | _=>simp at hfn
    obtain ⟨va,vb,hx,ha,hb,h1,h2⟩:=hfv;have hcall:(callFunc f' (va++xs.map a.eval++vb)).run P w = .ok (.enter f' (va++xs.map a.eval++vb)) w:=by
     unfold callable at hc;unfold callFunc;simp only [Sem.run_bind,run_program,Result.andThen_ok];split at hc
     ·rename_i fn hfn';simp at hc;rw [hfn'];simp [hc.1,Option.isSome_iff_ne_none.1 hc.2]
     cases hc
    have hlv:(xs.map a.eval).size=(vs.map AV.copy).length:=by simp [e1];omega
    have hmid : ∀ (i:Nat) (hi:i<(vs.map AV.copy).length),RepV G w .no (vs.map AV.copy)[i] ((xs.map a.eval).getD i Go.undef):=by
     intro i hi;simp at hi;have hz:i<(xs.toList.zip ts.toList).length:=by omega
     have:=(a0Y (a5l σ) R (e2 i hz hi) .no).1.copy .no;have hxs:i<xs.size:=by simp at hz;omega
     simpa [zp5,hxs] using this
    obtain ⟨k1,k2⟩:=a2O ha hlv h1 hmid;obtain ⟨k3,k4⟩:=a2O k1 hb k2 h2;have hrun:(execOp a.eval o).run P w = .ok (.enter f' (va++xs.map a.eval++vb)) w:=by
     simp only [execOp,hop,Sem.run_bind,resolve,hx,Deferred.ofValue,Sem.run_pure,Result.andThen_ok,invoke];exact hcall
    refine ⟨va++xs.map a.eval++vb,hrun,?_⟩;rw [List.append_assoc] at k3 k4;exact ⟨k3,k4⟩
   cases h
  cases h
 ·rename_i t name xs ts hop;refine ⟨by simp [hop],?_⟩;split at h
  ·rename_i z hg;split at h
   ·rename_i sz ms zz hTz;split at h
    ·rename_i f' vs hml hvs;split at h
     ·rename_i hsz;simp only [zp3,Prod.mk.injEq] at h;obtain ⟨rfl,rfl⟩:=h;obtain ⟨e1,e2⟩:=mapM_some hvs;obtain ⟨hsz,hz0⟩:=hsz;have hx:a.eval (.tmp t) = .iface z.toNat (.agg #[]):=by
       have hrep:=R.slots t;rw [hg] at hrep;show a.tmps.getD t Go.undef=_;generalize a.tmps.getD t Go.undef=v at hrep;cases hrep with | d _ _ _ hd =>
       cases hd with | iface z =>
       unfold a1N;rw [if_neg (by omega)]
      have hcall:(callFunc f' (#[.agg #[]]++xs.map a.eval)).run P w = .ok (.enter f' (#[.agg #[]]++xs.map a.eval)) w:=by
       unfold callable at hc;unfold callFunc;simp only [Sem.run_bind,run_program,Result.andThen_ok];split at hc
       ·rename_i fn hfn';simp at hc;rw [hfn'];simp [hc.1,Option.isSome_iff_ne_none.1 hc.2]
       cases hc
      have hlv:(xs.map a.eval).size=(vs.map AV.copy).length:=by simp [e1];omega
      have hmid : ∀ (i:Nat) (hi:i<(vs.map AV.copy).length),RepV G w .no (vs.map AV.copy)[i] ((xs.map a.eval).getD i Go.undef):=by
       intro i hi;simp at hi;have hz:i<(xs.toList.zip ts.toList).length:=by omega
       have:=(a0Y (a5l σ) R (e2 i hz hi) .no).1.copy .no;have hxs:i<xs.size:=by simp at hz;omega
       simpa [zp5,hxs] using this
      have h0 : ∀ (i:Nat) (hi:i<[AV.d (.agg [])].length),RepV G w .no [AV.d (.agg [])][i] ((#[Value.agg #[]]:Array Value).getD i Go.undef):=by
       intro i hi
       match i,hi with
       | 0,_=>exact .d _ _ _ (.agg [] #[] rfl (fun i hi=>by simp at hi) (fun v hv=>by simp at hv))
      obtain ⟨k1,k2⟩:=a2O (A:=[AV.d (.agg [])]) (va := #[Value.agg #[]]) rfl hlv h0 hmid;refine ⟨#[.agg #[]]++xs.map a.eval,?_,k1,k2⟩;have hmeth:=fun n=>hT.method hTz hml n w;have hx2:(#[a.eval (.tmp t)]++xs.map a.eval)[0]?=some (.iface z.toNat (.agg #[])):=by rw [hx,Array.getElem?_append_left (by simp)];rfl
      have hx3:(#[a.eval (.tmp t)]++xs.map a.eval).extract 1 (#[a.eval (.tmp t)]++xs.map a.eval).size=xs.map a.eval:=by simp
      have hd : ∀ k,(Go.method (k+Made.depth) z.toNat (.agg #[]) name).run P w = .ok (f',.agg #[]) w:=fun k=>hmeth (k+Made.depth-1);simp only [execOp,hop,Sem.run_bind,resolve,Sem.run_pure,Result.andThen_ok,invoke,hx2,hx3,callMethod,run_program,hd];exact hcall
     cases h
    cases h
   cases h
  cases h
 cases h
theorem a1D.call (hT:TOk P T) {f:FuncId} {args:List AV} {H rest H':List Obj} {r:AV} {d:Nat} (hw:a2l ops.toList σ o=some true) (hcall:a2x T σ o=some (f,args)) (hH:σ.heap=H++rest)
  (hr:rest=[]\/H'.length=H.length) (hin:a0s H.length H=true) (hargs:a3k H.length args=true) (hd:o.dst=some d) (hlt:d<σ.n) (hb:(σ.get d).isBox=false)
  (hfr:args.all AV.free=true) (hc:a0e P f args H r H') (h:a1D P m ops l Q { σ with env:=a2A σ.env d r,heap:=H'++rest }):a1D P m ops (o::l) Q σ:=by
 intro rr n G a w Q' hm' R hQ;unfold wpListIn;rw [if_pos (a2m hw R)];obtain ⟨hcb,hrl,hri,hin',hHH,hcc⟩:=hc;obtain ⟨hnd,vs,hrun,hvs,hrep⟩:=a5L hT hcall hcb R;have RH:RelH G (H++rest) w:=by rw [<-hH];exact R.h
 have hRh:=RH.handed hin;have hfr' : ∀ c∈args,c.free=true:=by simpa using hfr
 have hsub:Sub G (G.handed H.length) w w (fun ℓ=>ℓ = .no) H.length :=
  ⟨KLe.refl _,fun b ℓ f hl hO=>absurd (hl▸rfl) (R.h.sane.no b ℓ f hO),fun _ _=>rfl,Nat.le_refl _⟩
 refine ⟨fun _ _=>trivial,?_⟩;rw [Oper.semAt_eq _ _ _ hnd,hrun];refine ⟨fun hh=>by simp [Wd] at hh,?_⟩;refine CallsIn.mono (a4D (hcc (n-1) (G.handed H.length) w vs hvs (fun i hi => ?_) hRh (fun b ℓ f hO => ?_))) ?_
 ·exact (hrep i hi).sub R.h.sane hsub rfl (a0U hargs i hi) (AV.free_isLocal (hfr' _ (zp6 hi)))
 ·have:=(a2n hO).2;cases ℓ <;> simp [a1h] at this
  ·rename_i i;exact ⟨i,rfl⟩
  rename_i i j;exact ⟨i,rfl⟩
 rintro e w' ⟨v,G3,rfl,hv,R3,hE⟩;obtain ⟨R',hext⟩:=R.back hH hr hHH R3 hE hin' hv hrl hri hlt hb;show wpListIn _ _ _ _ _ _ (a.put o.dst v) w';rw [hd];refine h rr n _ _ w' Q' ?_ R' (fun e a' w'' hp=>hQ e a' w'' (hp.ext (hext m hm')));have hnh:G.nh=H.length+rest.length:=by rw [<-R.h.nh,hH];simp
 simp [Gh.back];omega
end
def c0o (G:Gh) (w w':World):Prop:=w'.heap.size=w.heap.size/\(∀ b,G.O b≠some (.df,0)->w'.heap[b]?=w.heap[b]?)/\w'.os=w.os/\w'.output=w.output/\(∀ a,a.block<w.heap.size->w'.frozen? a=w.frozen? a)/\w'.tape=w.tape/\w.drawn<=w'.drawn
theorem a4U {P:Program} {n:Nat} {fn:Func} {tmps:Array Value} {R:Ending->World->Prop} {G:Gh} : ∀ (ds:List Deferred) (w:World),c0g G ds w ->
  (∀ w',c0o G w w' -> ∃ v,(results fn tmps).run P w' = .ok v w'/\R (.returned v) w')->LeavesInM (Wd none) n P fn tmps R ds .returning w
 | [],w,_,h=>by
   obtain ⟨v,h1,h2⟩:=h w ⟨rfl,fun _ _=>rfl,rfl,rfl,fun _ _=>rfl,rfl,Nat.le_refl _⟩;exact ⟨v,h1,h2⟩
 | d::ds,w,hF,h=>by
   obtain ⟨hnd,hall⟩:=hF;obtain ⟨r,rfl,hO,hw⟩:=hall d (by simp);have hlt:r<w.heap.size:=(Array.getElem?_eq_some_iff.1 hw).1;let w1:World:={ w with heap:=w.heap.setIfInBounds r (.deferred none) }
   have hother : ∀ b,b≠r->w1.heap[b]?=w.heap[b]?:=by
    intro b hb;show (w.heap.setIfInBounds r _)[b]?=_;rw [Array.getElem?_setIfInBounds_ne (Ne.symm hb)]
   have htake:(Instr.takeDeferred r).run P w = .ok [] w1:=by
    simp [Instr.takeDeferred,getObj,setObj,Sem.run,hw,w1]
   refine ⟨by simp,.inl ⟨r,w1,rfl,htake,?_⟩⟩;simp at hnd;refine a4U (G:=G) ds w1 ⟨hnd.2,fun d hd => ?_⟩ ?_
   ·obtain ⟨r',rfl,h1,h2⟩:=hall d (by simp [hd]);refine ⟨r',rfl,h1,?_⟩;rw [hother r' ?_];exact h2;rintro rfl;exact hnd.1 _ hd rfl
   rintro w' ⟨hs,hb,hio1,hio2,hio3,hio4,hio5⟩;refine h w' ⟨by rw [hs];simp [w1],fun b hne => ?_,hio1,hio2,fun a ha=>(hio3 a (by simpa [w1] using ha)).trans ?_,hio4,hio5⟩
   ·rw [hb b hne,hother b ?_];rintro rfl;exact hne hO
   by_cases hab:a.block=r
   ·unfold World.frozen?;rw [hab,hw,show w1.heap[r]?=some (.deferred none) by simp [w1,hlt]]
   unfold World.frozen?;rw [hother _ hab]
def a3R (tmps:Array Value):ResultVar->Sem Value
 | .tmp t=>pure (tmps.getD t Go.undef)
 | .cell a t=>do loadVar t (<-asAddr (tmps.getD a Go.undef))
theorem a8x {P:Program} {T:a0i} (hT:TOk P T) {G:Gh} {σ:St} {a:Act} {w:World} (R:Rel G σ a w) {own:Bool} {x:ResultVar} {av:AV} (h:a4i T σ own x=some av) :
  ∃ v,(a3R a.tmps x).run P w = .ok v w/\av.isLocal=false/\((av.free=true /\ ∀ ℓ,RepV G w ℓ av v) \/ ∃ t k l,own=true/\av = .own k l/\RepV G w (.s t) (.own k l) v):=by
 cases x with
 | tmp t =>
   simp only [a4i] at h;have hrep:=R.slots t;refine ⟨a.tmps.getD t Go.undef,by simp [a3R],?_⟩;have key : ∀ v,σ.get t=v->v.isLocal=false->(∀ k l,v ≠ .lim k l)->(∀ k l,v ≠ .tail k l)->(∀ k l,v ≠ .fresh k l)->some (if own then v else v.copy)=some av->av.isLocal=false/\((av.free=true /\ ∀ ℓ,RepV G w ℓ av (a.tmps.getD t Go.undef)) \/ ∃ t' k l,own=true/\av = .own k l/\RepV G w (.s t') (.own k l) (a.tmps.getD t Go.undef)):=by
    intro v hv hl hnl hnt hnf he;rw [hv] at hrep;simp at he;subst he;cases own with
    | false=>exact ⟨AV.copy_isLocal _,.inl ⟨AV.copy_free _,fun ℓ=>hrep.copy ℓ⟩⟩
    | true =>
      refine ⟨hl,?_⟩;by_cases hf:v.free=true
      ·exact .inl ⟨hf,fun ℓ=>hrep.anywhere hf ℓ⟩
      cases v <;> first | (simp [AV.free] at hf;done) | (simp [AV.isLocal] at hl;done) | (exact absurd rfl (hnl _ _)) | (exact absurd rfl (hnt _ _)) | (exact absurd rfl (hnf _ _)) | skip
      exact .inr ⟨t,_,_,rfl,rfl,hrep⟩
   split at h
   ·cases h
   ·cases h
   ·cases h
   ·rename_i k l hgl;cases h;rw [hgl] at hrep;exact ⟨rfl,.inl ⟨rfl,fun ℓ=>hrep.copy ℓ⟩⟩
   ·rename_i k l hgl;cases h;rw [hgl] at hrep;exact ⟨rfl,.inl ⟨rfl,fun ℓ=>hrep.copy ℓ⟩⟩
   rename_i v h1 h2 h5 h3 h4;refine key _ rfl ?_ (fun k l e=>h3 k l e) (fun k l e=>h4 k l e) (fun k l e=>h5 k l e) h;generalize σ.get t=c at h1 h2;cases c <;> first | rfl | (exact absurd rfl (h1 _)) | (exact absurd rfl (h2 _ _))
 | cell t ty =>
   simp only [a4i] at h;split at h
   ·rename_i cs td hcs htd;obtain ⟨vs,e,hO,hw,hs,hh,hc,hat⟩:=a3T R hcs;obtain ⟨v,hv,hfree,hrep⟩:=a3C hT htd R (A := .slot t 0 cs) (b:=G.β (.s t)) (off:=0) ⟨hcs,rfl⟩ h;exact ⟨v,by simp [a3R,hat,asAddr,hv],AV.free_isLocal hfree,.inl ⟨hfree,hrep⟩⟩
   ·rename_i i off td hcs htd;split at h
    ·rename_i cs hob;have hsl:=R.slots t;rw [hcs] at hsl;generalize hat:a.tmps.getD t Go.undef=v0 at hsl;cases hsl with | ptr _ _ _ hi =>
     obtain ⟨v,hv,hfree,hrep⟩:=a3C hT htd R (A := .obj i off) (b:=G.β (.o i)) (off:=off) ⟨hi,rfl⟩ ⟨_,cs,hob,rfl,h⟩;exact ⟨v,by simp [a3R,hat,asAddr,hv],AV.free_isLocal hfree,.inl ⟨hfree,hrep⟩⟩
    ·rename_i k l hob;split at h
     ·rename_i hc;obtain ⟨rfl,hagg,hlen,hone⟩:=hc;cases h;have hsl:=R.slots t;rw [hcs] at hsl;generalize hat:a.tmps.getD t Go.undef=v0 at hsl;cases hsl with | ptr _ _ _ hi =>
      have hfl:D.flat l=l:=a5k (List.all_eq_true.1 hone);have hrd:a0O td ((D.flat l).map .d) 0=some (.d (.agg l)):=by
       have hdo : ∀ m:List D,a0N (m.map .d)=some m:=by
        intro m
        induction m with
        | nil=>rfl
        | cons x r ih=>simp [a0N,ih]
       unfold a0O cut;rw [hfl,if_pos (by simp [hlen])];simp only [hagg,if_true];rw [show (l.map AV.d).drop 0=l.map AV.d from rfl,List.take_of_length_le (by simp [hlen])];unfold a5w;rw [hdo]
      obtain ⟨v,hv,hfree,hrep⟩:=a3C hT htd R (A := .obj i 0) (b:=G.β (.o i)) (off:=0) ⟨hi,rfl⟩ ⟨_,_,hob,rfl,hrd⟩;exact ⟨v,by simp [a3R,hat,asAddr,hv],AV.free_isLocal hfree,.inl ⟨hfree,hrep⟩⟩
     cases h
    cases h
   cases h
theorem b2a (fn:Func) (tmps:Array Value):results fn tmps=(do
  let vs <-fn.results.mapM (a3R tmps)
  pure (if h:vs.size=1 then vs[0] else .tuple vs)):=by
 unfold results a3R
 rfl
theorem b3y {P:Program} {T:a0i} (hT:TOk P T) {G:Gh} {σ:St} {a:Act} {w:World} (R:Rel G σ a w) : ∀ (l:List ResultVar) (avs:List AV),l.mapM (a4i T σ false)=some avs ->
  ∃ vs:List Value,(l.mapM (a3R a.tmps)).run P w = .ok vs w/\vs.length=l.length/\avs.length=l.length/\(∀ c∈avs,c.isLocal=false) /\ ∀ (i:Nat) (hi:i<avs.length),RepV G w .no avs[i] (vs.getD i Go.undef)
 | [],avs,h=>by simp at h;subst h;exact ⟨[],by simp,rfl,rfl,fun c hc=>by simp at hc,fun i hi=>by simp at hi⟩
 | x::r,avs,h=>by
   simp only [List.mapM_cons,Option.bind_eq_bind,Option.bind_eq_some_iff,Option.pure_def,zp3] at h;obtain ⟨av,hav,l',hl',rfl⟩:=h;obtain ⟨vs,h1,h2,h3,h4,h5⟩:=b3y hT R r l' hl';obtain ⟨v,e1,e2,e3⟩:=a8x hT R hav;refine ⟨v::vs,by simp [List.mapM_cons,e1,h1],by simp [h2],by simp [h3],?_,fun i hi => ?_⟩
   ·intro c hc;rcases List.mem_cons.1 hc with rfl | hc
    ·exact e2
    exact h4 c hc
   cases i with
   | zero =>
     rcases e3 with ⟨_,e3⟩ | ⟨_,_,_,e,_⟩
     ·simpa using e3 .no
     cases e
   | succ i=>simpa using h5 i (by simpa using hi)
theorem a0e.leaveP {P:Program} {T:a0i} (hT:TOk P T) {fn:Func} {H H':List Obj} {r:AV} (hrl:r.isLocal=false) (hri:r.inb H'.length=true) (hin:a0s H'.length H'=true)
  {n:Nat} {G:Gh} {w:World} {e:Exit} {a':Act} {w':World} (hp:Post H.length G w (a8w T fn H.length r H') e a' w') :
  (e = .normal\/e = .ret)/\LeavesInM (Wd none) n P fn a'.tmps (fun e w' => ∃ v G',e = .returned v/\RepV G' w' .ret r v/\RelH G' H' w'/\Ext H.length G w G' w') a'.defers .returning w':=by
 obtain ⟨σ',G',R',hE,hm,hq⟩:=hp

 have fin : ∀ (hq:b5H T σ' fn.results.toList=some r/\r.inb H'.length=true/\a0s H'.length H'=true/\H.length<=H'.length /\ ∃ junk,σ'.heap=H'++junk),
   LeavesInM (Wd none) n P fn a'.tmps (fun e w' => ∃ v G',e = .returned v/\RepV G' w' .ret r v/\RelH G' H' w'/\Ext H.length G w G' w') a'.defers .returning w':=by
  rintro ⟨hres,_,_,_,junk,hjunk⟩;refine a4U (G:=G') _ _ R'.df ?_;rintro wf ⟨hfs,hfb,hfio⟩;have hpr:Pres G' G' w' wf (fun ℓ=>ℓ ≠ .df):=⟨KLe.refl _,fun b ℓ f hℓ hO=>⟨hO,hfb b (fun hf'=>by rw [hO] at hf';simp at hf';exact hℓ hf'.1)⟩,fun _ _=>rfl,Nat.le_refl _⟩;have hkept : ∀ x v,G'.K x=some v->wf.cell? x=some v:=by
   intro x v hx;have hc:=R'.h.kept x v hx;have hne:G'.O x.block≠some (.df,0):=by
    intro hO;have hsp:x.spot=none:=by
     unfold World.cell? at hc;split at hc
     ·split at hc
      ·cases hc
      rename_i hsp;simpa using hsp
     cases hc
    have:=(R'.h.disj _ _ _ hO).2 x.off (Nat.zero_le _);obtain ⟨xb,xo,xs⟩:=x;simp at hsp;subst hsp;rw [this] at hx;cases hx
   unfold World.cell? at *
   rwa [hfb _ hne]
  have R2:Rel G' σ' { tmps:=a'.tmps,defers:=[] } wf:=by
   refine ⟨⟨R'.h.sane,R'.h.nh,fun i ob hob=>(R'.h.objs i ob hob).pres R'.h.sane (by rw [<-R'.h.nh];exact (zp2.1 hob).1) hpr (by simp) (by simp),hkept,fun b ℓ f hO=>by rw [hfs];exact R'.h.disj b ℓ f hO⟩,R'.size,
    fun t=>(R'.slots t).pres R'.h.sane hpr (by simp) (fun _ _ _=>rfl) (fun _ _ _=>⟨rfl,by simp⟩),R'.places,⟨by simp,fun d hd=>by simp at hd⟩⟩
  have hE2:Ext H.length G w G' wf:=by
   refine ⟨hE.K,hE.new,fun b hb hO' => ?_,by rw [hfs];exact hE.size,hE.β,hfio.1.trans hE.io.1,hfio.2.1.trans hE.io.2.1,fun a ha=>(hfio.2.2.1 a (Nat.lt_of_lt_of_le ha hE.size)).trans (hE.io.2.2.1 a ha),hfio.2.2.2.1.trans hE.io.2.2.2.1,Nat.le_trans hE.io.2.2.2.2 hfio.2.2.2.2⟩;obtain ⟨h1,h2⟩:=hE.others b hb hO';exact ⟨(hfb b (fun hf=>by rw [h2] at hf;cases hf)).trans h1,h2⟩

  have cutG : ∀ (G2:Gh),RelH G2 σ'.heap wf->H'.length<=G2.nh->Ext H.length G w G2 wf->RelH { G2 with nh:=H'.length } H' wf/\Ext H.length G w { G2 with nh:=H'.length } wf /\
    ∀ ℓ v,RepV G2 wf ℓ r v->RepV { G2 with nh:=H'.length } wf ℓ r v:=by
   intro G2 RH2 hle hEE;have hsub:Sub G2 { G2 with nh:=H'.length } wf wf (fun _=>True) H'.length:=⟨KLe.refl _,fun b ℓ f _ hO=>⟨hO,rfl⟩,fun _ _=>rfl,Nat.le_refl _⟩
   refine ⟨⟨⟨RH2.sane.no⟩,rfl,fun i ob hob => ?_,RH2.kept,RH2.disj⟩,⟨hEE.K,hEE.new,hEE.others,hEE.size,hEE.β,hEE.io⟩,fun ℓ v hv=>hv.sub RH2.sane hsub trivial hri hrl⟩;have hi:i<H'.length:=(zp2.1 hob).1;exact (RH2.objs i ob (by rw [hjunk,zp7 hi];exact hob)).sub RH2.sane hi hsub trivial (fun _=>trivial) (a3d hin i ob hob)
  have hle:H'.length<=G'.nh:=by rw [<-R'.h.nh,hjunk];simp
  rw [b2a];simp only [b5H] at hres;split at hres
  ·rename_i x hx;obtain ⟨v,h1,h2,h3⟩:=a8x hT R2 hres;have hrun:(do let vs <-fn.results.mapM (a3R a'.tmps);pure (if h:vs.size=1 then vs[0] else Value.tuple vs):Sem Value).run P wf = .ok v wf:=by
    have:fn.results = #[x]:=by cases hfr2:fn.results;simp_all
    rw [this];simp [h1]
   rcases h3 with ⟨hfree,h3⟩ | ⟨t,k,l,_,rfl,h3⟩
   ·obtain ⟨k1,k2,k3⟩:=cutG G' R2.h hle hE2;exact ⟨v,hrun,v,_,rfl,k3 _ _ (h3 .ret),k1,k2⟩
   cases h3 with | own _ _ _ _ hr ht =>
   have hmv:=G'.move_pres wf (.s t) .ret;have RHm:RelH (G'.move (.s t) .ret) σ'.heap wf:=R2.h.move _ _ (by simp [Loc.root]) (fun i ob hob=>(R2.h.objs i ob hob).pres R2.h.sane (by rw [<-R2.h.nh];exact (zp2.1 hob).1) hmv (by simp) (by simp));obtain ⟨k1,k2,k3⟩:=cutG (G'.move (.s t) .ret) RHm hle (hE2.trans (Ext.move _ _ _ _ _));exact ⟨v,hrun,v,_,rfl,k3 _ _ (.own _ _ _ _ hr ht.move),k1,k2⟩
  rename_i l hl;simp at hres;obtain ⟨avs,hav,rfl⟩:=hres;obtain ⟨vs,h1,h2,h3,h4,h5⟩:=b3y hT R2 _ _ hav;obtain ⟨k1,k2,k3⟩:=cutG G' R2.h hle hE2;have hrun:(do let vs <-fn.results.mapM (a3R a'.tmps);pure (if h:vs.size=1 then vs[0] else Value.tuple vs):Sem Value).run P wf = .ok (.tuple vs.toArray) wf:=by
   have hne:vs.length≠1:=by
    intro h;rw [h2] at h;obtain ⟨x,hx⟩:=List.length_eq_one_iff.1 h;exact hl x hx
   simp [Array.mapM_eq_mapM_toList,h1,hne]
  exact ⟨.tuple vs.toArray,hrun,_,_,rfl,k3 _ _ (.tuple _ _ _ (by simp [h2,h3]) (fun i hi=>by simpa [List.getD,zp5] using h5 i hi) h4),k1,k2⟩
 cases e with
 | normal=>exact ⟨.inl rfl,fin hq⟩
 | ret=>exact ⟨.inr rfl,fin hq⟩
 | _=>exact hq.elim
theorem a0e.enterW {P:Program} {T:a0i} (hT:TOk P T) {f:FuncId} {fn:Func} {c:Code} {args:List AV} {H H':List Obj} {r:AV} (hf:P.funcs[f]?=some fn) (hb:fn.body=some c) (hname:fn.name ≠ "runtime.NumGoroutine")
  (hn:args.length<=fn.ntmps) (hfr:args.all AV.free=true) (hrl:r.isLocal=false) (hri:r.inb H'.length=true) (hin:a0s H'.length H'=true) (hHH:H.length<=H'.length)
  (n:Nat) (G:Gh) (w:World) (h : ∀ a,Rel G { env:=a7l 0 args,heap:=H,n:=fn.ntmps } a w->c.wpIn (Wd none) n P (Post H.length G w (a8w T fn H.length r H')) a w)
  (vs:Array Value) (hvs:vs.size=args.length) (hrep : ∀ (i:Nat) (hi:i<args.length),RepV G w .no args[i] (vs.getD i Go.undef)) (RH:RelH G H w) :
  CallsIn (Wd none) n P f vs w (fun e w' => ∃ v G',e = .returned v/\RepV G' w' .ret r v/\RelH G' H' w'/\Ext H.length G w G' w'):=by
 have hfr' : ∀ c∈args,c.free=true:=by simpa using hfr
 refine callsIn_of_wp_marks hf hb trivial ?_ rfl;have hsz:(vs++Array.replicate (fn.ntmps-vs.size) Go.undef).size=fn.ntmps:=by simp;omega
 have R:Rel G { env:=a7l 0 args,heap:=H,n:=fn.ntmps } { tmps:=vs++Array.replicate (fn.ntmps-vs.size) Go.undef,defers:=[] } w:=by
  refine ⟨RH,hsz,fun t => ?_,fun t r off ht => ?_,⟨by simp,fun d hd=>by simp at hd⟩⟩
  ·simp only [St.get,a4C];split
   ·rename_i ht;simp at ht;have:=(hrep t (by omega)).anywhere (hfr' _ (zp6 (by omega))) (.s t);simpa [List.getD,show t<args.length by omega,zp5,Array.getElem?_append_left (show t<vs.size by omega)] using this
   exact .undef _ _
  simp only [St.get,a4C] at ht;split at ht
  ·rename_i hlt;simp at hlt;have:args[t]'(by omega)∈args:=zp6 _;have h2:=hfr' _ this;simp [List.getD,show t<args.length by omega] at ht;rw [ht] at h2;simp [AV.free] at h2
  cases ht
 refine wpIn_mono (h _ R) ?_;intro e a' w' hp;obtain ⟨he,hl⟩:=a0e.leaveP (n:=n) hT hrl hri hin hp;rcases he with rfl | rfl
 ·exact hl
 exact hl
theorem a0e.enterT {P:Program} {T:a0i} (hT:TOk P T) {f:FuncId} {fn:Func} {c:Code} {args:List AV} {H H':List Obj} {r:AV} (hf:P.funcs[f]?=some fn) (hb:fn.body=some c) (hname:fn.name ≠ "runtime.NumGoroutine")
  (hn:args.length<=fn.ntmps) (hfr:args.all AV.free=true) (hrl:r.isLocal=false) (hri:r.inb H'.length=true) (hin:a0s H'.length H'=true) (hHH:H.length<=H'.length)
  (h:a2J P H.length c (a8w T fn H.length r H') { env:=a7l 0 args,heap:=H,n:=fn.ntmps }):a0e P f args H r H' :=
 ⟨by simp [callable,hf,hb,hname],hrl,hri,hin,hHH,fun n G w vs hvs hrep RH _ =>
  a0e.enterW hT hf hb hname hn hfr hrl hri hin hHH n G w (fun a R=>h n G a w (by rw [RH.nh];exact Nat.le_refl _) R) vs hvs hrep RH⟩
theorem a0e.enter {P:Program} {T:a0i} (hT:TOk P T) {f:FuncId} {fn:Func} {c:Code} {args:List AV} {H H':List Obj} {r:AV} (hf:P.funcs[f]?=some fn) (hb:fn.body=some c) (hname:fn.name ≠ "runtime.NumGoroutine")
  (hn:args.length<=fn.ntmps) (hfr:args.all AV.free=true) (hrl:r.isLocal=false) (hri:r.inb H'.length=true) (hin:a0s H'.length H'=true) (hHH:H.length<=H'.length)
  (h:AWp P H.length c (a8w T fn H.length r H') { env:=a7l 0 args,heap:=H,n:=fn.ntmps }):a0e P f args H r H' :=
 a0e.enterT hT hf hb hname hn hfr hrl hri hin hHH (a2J.of h)
end Go.Am
namespace Go.Am
open Go
def callY (T:a0i) (σ:St) (o:Oper):Option (Nat×List AV) :=
 match o.op with
 | .call { callee := .value (.tmp t),args,argTypes } =>
   match σ.get t,((args.toList.zip argTypes.toList).mapM fun p=>opv T σ.get p.2 p.1) with
   | .yield l,some vs=>if args.size=argTypes.size then some (l,vs.map AV.copy) else none
   | _,_=>none
 | _=>none
inductive Out where
 | done (σ:St)
 | yield (l:Nat) (args:List AV) (o:Oper) (rest:List Oper) (σ:St)
 | call (f:FuncId) (args:List AV) (o:Oper) (rest:List Oper) (σ:St)
 | stuck
def a7m (A:Ar) (T:a0i) (an:Ann) (all:List Oper):List Oper->St->Out
 | [],σ => .done σ
 | o::os,σ =>
   match a2l all σ o with
   | some true =>
     match a2x T σ o with
     | some (f,args) => .call f args o os σ
     | none =>
       match callY T σ o with
       | some (l,args) => .yield l args o os σ
       | none =>
         match a2s A T an σ.n σ.get σ.heap o with
         | some (ss,h)=>a7m A T an all os (σ.upd ss h)
         | none => .stuck
   | some false =>
     match o.dst with
     | some d=>if decide (d<σ.n) && !(σ.get d).isBox then a7m A T an all os (σ.upd [(d,.tuple [])] none) else .stuck
     | none=>a7m A T an all os σ
   | none => .stuck
theorem b8g {A:Ar} {T:a0i} {an:Ann} {σ:St} {o:Oper} {ss:a1C} {h:Option (List Obj)} (he:a2s A T an σ.n σ.get σ.heap o=some (ss,h)):σ.heap.length<=(σ.upd ss h).heap.length:=by
 cases h with
 | none=>exact Nat.le_refl _
 | some H'=>exact a6D he
section
variable {P:Program} {T:a0i} {m:Nat} {Q:Exit->St->Prop} {ops:Array Oper} {an:Ann}
def b3z (P:Program) (m:Nat) (ops:Array Oper) (T:a0i) (Q:Exit->St->Prop):Out->Prop
 | .done σ=>Q .normal σ
 | .call f args o rest σ=>a2x T σ o=some (f,args)->a2l ops.toList σ o=some true->a1D P m ops (o::rest) Q σ
 | .yield l args o rest σ=>callY T σ o=some (l,args)->a2l ops.toList σ o=some true->a1D P m ops (o::rest) Q σ
 | .stuck=>False
theorem a1D.run (hT:TOk P T) : ∀ (l:List Oper) (σ:St),m<=σ.heap.length->b3z P m ops T (fun e σ'=>m<=σ'.heap.length->Q e σ') (a7m Ar.std T an ops.toList l σ)->a1D P m ops l Q σ
 | [],σ,hm,h=>a1D.nil (h hm)
 | o::os,σ,hm,h=>by
   unfold a7m at h;cases hw:a2l ops.toList σ o with
   | none=>simp [hw,b3z] at h
   | some b =>
     cases b with
     | true =>
       simp only [hw] at h;cases hc:a2x T σ o with
       | some p =>
         obtain ⟨f,args⟩:=p;simp only [hc] at h;have:=h hc hw;intro r n G a w Q' hm' R hQ;exact this r n G a w Q' hm' R (fun e a' w' hp=>by
          obtain ⟨σ',G',R',hE,hm'',hq⟩:=hp;exact hQ e a' w' ⟨σ',G',R',hE,hm'',hq (by rw [R'.h.nh];exact hm'')⟩)
       | none =>
         simp only [hc] at h;cases hy:callY T σ o with
         | some p =>
           obtain ⟨l,args⟩:=p;simp only [hy] at h;have:=h hy hw;intro r n G a w Q' hm' R hQ;exact this r n G a w Q' hm' R (fun e a' w' hp=>by
            obtain ⟨σ',G',R',hE,hm'',hq⟩:=hp;exact hQ e a' w' ⟨σ',G',R',hE,hm'',hq (by rw [R'.h.nh];exact hm'')⟩)
         | none =>
         simp only [hy] at h;cases he:a2s Ar.std T an σ.n σ.get σ.heap o with
         | none=>simp [he,b3z] at h
         | some q =>
           obtain ⟨ss,h'⟩:=q;simp only [he] at h;have hlen:=b8g he;exact a1D.step hw (a8v hT (a5l σ) (fun _ _=>rfl) (fun _ _ h=>h) (fun _=>rfl) he) (by omega) (a1D.run hT os _ (by omega) h)
     | false =>
       simp only [hw] at h;cases hd:o.dst with
       | none=>simp only [hd] at h;exact a1D.skip0 hw hd (a1D.run hT os σ hm h)
       | some d =>
         simp only [hd] at h;split at h
         ·rename_i hc;simp at hc;exact a1D.skip hw hd hc.1 hc.2 (a1D.run hT os _ hm h)
         exact h.elim
theorem a1D.done (hT:TOk P T) {l:List Oper} {σ σ':St} (h : ∀ A:Ar,A=Ar.std->a7m A T an ops.toList l σ = .done σ') (hm:m<=σ.heap.length) (hq:Q .normal σ'):a1D P m ops l Q σ :=
 a1D.run (an:=an) hT l σ hm (by rw [h _ rfl];exact fun _=>hq)
end
def AV.noPlace:AV->AV
 | .place .. => .undef
 | v=>v
def a8y (e:List (Nat×AV)):List Nat->List (Nat×AV)
 | []=>[]
 | t::r=>(t,(a1V e t).noPlace)::a8y e r
def St.keep (σ:St) (ts:List Nat):St:={ σ with env:=a8y σ.env ts }
theorem a4E (e:List (Nat×AV)) : ∀ (ts:List Nat) (t:Nat),a1V (a8y e ts) t=(a1V e t).noPlace\/a1V (a8y e ts) t = .undef
 | [],t => .inr rfl
 | s::r,t=>by
   simp only [a8y,a1V];split
   ·rename_i h;subst h;exact .inl rfl
   exact a4E e r t
theorem Rel.keep {G:Gh} {σ:St} {a:Act} {w:World} (R:Rel G σ a w) (ts:List Nat):Rel G (σ.keep ts) a w:=by
 refine ⟨R.h,R.size,fun t => ?_,fun t r off ht => ?_,R.df⟩
 ·rcases a4E σ.env ts t with h | h
  ·simp only [St.keep,St.get,h];have:=R.slots t;simp only [St.get] at this;generalize a1V σ.env t=c at this;cases c <;> first | exact this | exact .undef _ _
  simp only [St.keep,St.get,h];exact .undef _ _
 simp only [St.keep,St.get] at ht;rcases a4E σ.env ts t with h | h
 ·rw [h] at ht;generalize a1V σ.env t=c at ht;cases c <;> simp [AV.noPlace] at ht
 rw [h] at ht;cases ht
section
variable {P:Program} {T:a0i} {m:Nat} {Q:Exit->St->Prop} {σ:St}
theorem AWp.keep (ts:List Nat) {c:Code} (h:AWp P m c Q (σ.keep ts)):AWp P m c Q σ:=fun r n G a w hm R=>h r n G a w hm (R.keep ts)
def St.drop (σ:St) (k:Nat):St:={ σ with heap:=σ.heap.take k }
end
structure Rec where
 sets:a1C
 heap:Option (List Obj)
 rd:List Nat
 hr:Bool
 ho:List Nat
 low:List Obj
structure Foot where
 wr:List Nat
 rd:List Nat
 hw:Bool
 hr:Bool
 ho:List Nat
 lw:Nat
def Rec.foot (x:Rec):Foot:={ wr:=x.sets.map (·.1),rd:=x.rd,hw:=x.heap.isSome,hr:=x.hr,ho:=x.ho,lw:=x.low.length }
def a3n (low H:List Obj):List Obj:=low++H.drop low.length
@[simp] theorem b3A (H:List Obj):a3n [] H=H:=rfl
theorem a2P {low:List Obj} (h:low.length=0) (H:List Obj):a3n low H=H:=by rw [List.length_eq_zero_iff.1 h];rfl
theorem b3B (low H:List Obj):H.length<=(a3n low H).length:=by simp [a3n];omega
theorem a5M {low H:List Obj} {a:Nat} (h : ¬ a<low.length):(a3n low H)[a]?=H[a]?:=by
 unfold a3n;rw [zp8 (by omega),List.getElem?_drop];congr 1;omega
theorem b2b {low H H':List Obj} {a:Nat} (h:H[a]?=H'[a]?):(a3n low H)[a]?=(a3n low H')[a]?:=by
 by_cases hl:a<low.length
 ·unfold a3n;rw [zp7 hl,zp7 hl]
 rw [a5M hl,a5M hl];exact h
def meets (l m:List Nat):Bool:=l.any fun t=>m.contains t
def Foot.over (x y:Foot):Bool:=(x.hw&&(y.hr || !y.ho.isEmpty))||(decide (0<x.lw)&&y.hr)||y.ho.any fun a=>decide (a<x.lw)
def Foot.both (x y:Foot):Bool:=(x.hw||decide (0<x.lw))&&(y.hw||decide (0<y.lw))
def Foot.clash (x y:Foot):Bool:=meets x.wr (y.rd++y.wr)||meets x.rd y.wr||x.over y||y.over x||x.both y
structure Alike (σ τ:St):Prop where
 get : ∀ t,σ.get t=τ.get t
 heap:σ.heap=τ.heap
 n:σ.n=τ.n
theorem Alike.refl (σ:St):Alike σ σ:=⟨fun _=>rfl,rfl,rfl⟩
theorem Alike.symm {σ τ:St} (h:Alike σ τ):Alike τ σ:=⟨fun t=>(h.get t).symm,h.heap.symm,h.n.symm⟩
theorem Alike.trans {σ τ υ:St} (h:Alike σ τ) (h':Alike τ υ):Alike σ υ:=⟨fun t=>(h.get t).trans (h'.get t),h.heap.trans h'.heap,h.n.trans h'.n⟩
theorem Rel.alike {G:Gh} {σ τ:St} {a:Act} {w:World} (R:Rel G σ a w) (h:Alike σ τ):Rel G τ a w :=
 ⟨h.heap▸R.h,by rw [R.size,h.n],fun t=>by rw [<-h.get t];exact R.slots t,fun t r off ht=>by rw [<-h.get t] at ht;obtain ⟨cs,hcs⟩:=R.places t r off ht;exact ⟨cs,by rw [<-h.get r];exact hcs⟩,R.df⟩
def a3w:a1C->Nat->Option AV
 | [],_=>none
 | (s,v)::r,t=>match a3w r t with
   | some x=>some x
   | none=>if s=t then some v else none
theorem a6E : ∀ (ss:a1C) (e:List (Nat×AV)) (t:Nat),a1V (a0r e ss) t=(a3w ss t).getD (a1V e t)
 | [],e,t=>rfl
 | (s,v)::r,e,t=>by
   have ih:=a6E r (a2A e s v) t;simp only [a0r,List.foldl_cons] at ih ⊢;rw [ih,a0d];simp only [a3w];cases a3w r t with
   | some x=>rfl
   | none=>split <;> rfl
theorem a3x {ss:a1C} {t:Nat} (h:t∉ss.map (·.1)):a3w ss t=none:=by
 induction ss with
 | nil=>rfl
 | cons p r ih =>
   obtain ⟨s,v⟩:=p;simp at h;simp only [a3w];rw [ih (by simp;exact h.2),if_neg (fun e=>h.1 e.symm)]
theorem b8h (σ:St) (ss:a1C) (h:Option (List Obj)) (t:Nat):(σ.upd ss h).get t=(a3w ss t).getD (σ.get t):=a6E ss σ.env t
def Rec.app (σ:St) (x:Rec):St:={ σ.upd x.sets x.heap with heap:=a3n x.low (σ.upd x.sets x.heap).heap }
theorem a4F (σ:St) (x:Rec) (t:Nat):(x.app σ).get t=(a3w x.sets t).getD (σ.get t):=b8h σ x.sets x.heap t
theorem a1Z (σ:St) (x:Rec):(x.app σ).heap=a3n x.low (x.heap.getD σ.heap):=rfl
theorem b5I {x y:Rec} (h:x.foot.clash y.foot=false) (σ:St):Alike (y.app (x.app σ)) (x.app (y.app σ)):=by
 simp only [Foot.clash,Foot.over,Foot.both,Rec.foot,Bool.or_eq_false_iff] at h;obtain ⟨⟨⟨⟨h1,h2⟩,h3⟩,h4⟩,h5⟩:=h;have hdis : ∀ t,t∈x.sets.map (·.1)->t∉y.sets.map (·.1):=by
  intro t ht hy;have:=List.any_eq_false.1 h1 t ht;simp at this;simp at hy;exact absurd hy (by simpa using this.2)
 refine ⟨fun t => ?_,?_,rfl⟩
 ·simp only [a4F];by_cases hx:t∈x.sets.map (·.1)
  ·rw [a3x (hdis t hx)];rfl
  rw [a3x hx]
  rfl
 simp only [a1Z];simp only [Bool.and_eq_false_iff,Bool.or_eq_false_iff] at h5;rcases h5 with ⟨e1,e2⟩ | ⟨e1,e2⟩ <;> (replace e2:=of_decide_eq_false e2;replace e2:=Nat.eq_zero_of_not_pos e2)
 ·rw [a2P e2];cases hx:x.heap with
  | none=>simp only [Option.getD_none];rw [a2P e2]
  | some _=>rw [hx] at e1;cases e1
 rw [a2P e2];cases hx:y.heap with
 | none=>simp only [Option.getD_none];rw [a2P e2]
 | some _=>rw [hx] at e1;cases e1
def a0t (S:Nat->Bool):Nat->List Rec->St->St
 | _,[],σ=>σ
 | i,x::r,σ=>a0t S (i+1) r (if S i then x.app σ else σ)
theorem a4j (S:Nat->Bool) : ∀ (i:Nat) (l:List Rec) {σ τ:St},Alike σ τ->Alike (a0t S i l σ) (a0t S i l τ)
 | _,[],_,_,h=>h
 | i,x::r,σ,τ,h=>by
   simp only [a0t];refine a4j S (i+1) r ?_;split
   ·refine ⟨fun t=>by rw [a4F,a4F,h.get],by rw [a1Z,a1Z,h.heap],h.n⟩
   exact h
theorem a1S {S S':Nat->Bool} : ∀ (i:Nat) (l:List Rec) (σ:St),(∀ j,i<=j->j<i+l.length->S j=S' j)->a0t S i l σ=a0t S' i l σ
 | _,[],_,_=>rfl
 | i,x::r,σ,h=>by
   simp only [a0t];rw [h i (Nat.le_refl _) (by simp)];exact a1S (i+1) r _ (fun j h1 h2=>h j (by omega) (by simp;omega))
theorem a4V (S:Nat->Bool) (x:Rec) : ∀ (i:Nat) (l:List Rec) (σ:St),(∀ (j:Nat) (hj:j<l.length),S (i+j)=true->x.foot.clash l[j].foot=false)->Alike (a0t S i l (x.app σ)) (x.app (a0t S i l σ))
 | _,[],σ,_=>Alike.refl _
 | i,y::r,σ,h=>by
   simp only [a0t];have ih:=a4V S x (i+1) r (if S i then y.app σ else σ) (fun j hj hS=>h (j+1) (by simp;omega) (by rw [show i+(j+1)=i+1+j by omega];exact hS))
   refine Alike.trans (a4j S (i+1) r ?_) ih;split
   ·rename_i hi;exact b5I (h 0 (by simp) (by simpa using hi)) σ
   exact Alike.refl _
theorem a5N (S:Nat->Bool) (q:Nat) : ∀ (i:Nat) (l:List Rec) (σ:St) (hq:q<l.length),S (i+q)=false->(∀ (j:Nat) (hj:j<l.length),q<j->S (i+j)=true->(l[q]).foot.clash l[j].foot=false) ->
  Alike (a0t (fun k=>k == i+q||S k) i l σ) ((l[q]).app (a0t S i l σ))
 | i,[],σ,hq,_,_=>by simp at hq
 | i,x::r,σ,hq,hS,h=>by
   simp only [a0t];cases q with
   | zero =>
     simp only [Nat.add_zero] at hS ⊢;simp only [beq_self_eq_true,Bool.true_or,if_true,hS,Bool.false_eq_true,if_false,List.getElem_cons_zero];rw [a1S (S':=S) (i+1) r _ (fun j h1 _=>by simp;intro e;omega)];exact a4V S x (i+1) r σ (fun j hj hSj=>h (j+1) (by simp;omega) (by omega) (by rw [show i+(j+1)=i+1+j by omega];exact hSj))
   | succ q =>
     have hne:(i == i+(q+1))=false:=by simp
     simp only [hne,Bool.false_or];have ih:=a5N S q (i+1) r (if S i then x.app σ else σ) (by simpa using hq) (by rw [show i+1+q=i+(q+1) by omega];exact hS)
      (fun j hj hqj hSj=>h (j+1) (by simp;omega) (by omega) (by rw [show i+(j+1)=i+1+j by omega];exact hSj))
     rw [show i+1+q=i+(q+1) by omega] at ih;simpa using ih
def Foot.spares (y f:Foot):Prop:=(∀ t∈f.rd,t∉y.wr)/\(f.hr=true->y.hw=false/\y.lw=0) /\ ∀ a∈f.ho,y.hw=false /\ ¬ a<y.lw
theorem Foot.spares_over {y f:Foot} (h:y.over f=false):(f.hr=true->y.hw=false/\y.lw=0) /\ ∀ a∈f.ho,y.hw=false /\ ¬ a<y.lw:=by
 simp only [Foot.over,Bool.or_eq_false_iff] at h;obtain ⟨⟨h1,h2⟩,h3⟩:=h;refine ⟨fun hr => ?_,fun a ha => ?_⟩
 ·rw [hr] at h1 h2;refine ⟨by simpa using h1,?_⟩;have : ¬ 0<y.lw:=by simpa using h2
  omega
 refine ⟨?_,by simpa using List.any_eq_false.1 h3 a ha⟩;have:f.ho.isEmpty=false:=by
  cases hf:f.ho with
  | nil=>rw [hf] at ha;cases ha
  | cons _ _=>rfl
 rw [this] at h1;simpa using h1
theorem Foot.spares_left {y f:Foot} (h:y.clash f=false):y.spares f:=by
 simp only [Foot.clash,Bool.or_eq_false_iff] at h;obtain ⟨⟨⟨⟨h1,_⟩,h3⟩,_⟩,_⟩:=h;refine ⟨fun t ht hy => ?_,Foot.spares_over h3⟩;have:=List.any_eq_false.1 h1 t hy;simp at this;exact this.1 ht
theorem a4W (S S':Nat->Bool) (f:Foot) : ∀ (i:Nat) (l:List Rec) (σ τ:St),(∀ (j:Nat) (hj:j<l.length),S (i+j)≠S' (i+j)->(l[j]).foot.spares f) ->
  (∀ t∈f.rd,σ.get t=τ.get t)->(f.hr=true->σ.heap=τ.heap)->(∀ a∈f.ho,σ.heap[a]?=τ.heap[a]?)->σ.n=τ.n ->
  (∀ t∈f.rd,(a0t S i l σ).get t=(a0t S' i l τ).get t)/\(f.hr=true->(a0t S i l σ).heap=(a0t S' i l τ).heap)/\(∀ a∈f.ho,(a0t S i l σ).heap[a]?=(a0t S' i l τ).heap[a]?)/\(a0t S i l σ).n=(a0t S' i l τ).n
 | _,[],σ,τ,_,h1,h2,h4,h3=>⟨h1,h2,h4,h3⟩
 | i,x::r,σ,τ,h,h1,h2,h4,h3=>by
   simp only [a0t];have hx:=h 0 (by simp);simp only [Nat.add_zero,List.getElem_cons_zero] at hx;have hrest:=fun σ τ=>a4W S S' f (i+1) r σ τ (fun j hj hne=>h (j+1) (by simp;omega) (by rw [show i+(j+1)=i+1+j by omega];exact hne));have skipL:x.foot.spares f->(∀ (σ:St),∀ t∈f.rd,(x.app σ).get t=σ.get t)/\(∀ (σ:St),f.hr=true->(x.app σ).heap=σ.heap) /\ ∀ (σ:St),∀ a∈f.ho,(x.app σ).heap[a]?=σ.heap[a]?:=by
    rintro ⟨e1,e2,e3⟩;refine ⟨fun σ t ht => ?_,fun σ hr => ?_,fun σ a ha => ?_⟩
    ·rw [a4F,a3x (e1 t ht)];rfl
    ·obtain ⟨q1,q2⟩:=e2 hr;simp only [Rec.foot] at q1 q2;rw [a1Z,a2P q2];cases hh:x.heap with
     | none=>rfl
     | some _=>rw [hh] at q1;cases q1
    obtain ⟨q1,q2⟩:=e3 a ha;simp only [Rec.foot] at q1 q2;rw [a1Z,a5M q2];cases hh:x.heap with
    | none=>rfl
    | some _=>rw [hh] at q1;cases q1
   cases hS:S i <;> cases hS':S' i
   ·exact hrest σ τ h1 h2 h4 h3
   ·obtain ⟨e1,e2,e3⟩:=skipL (hx (by rw [hS,hS'];decide));simp only [if_true,Bool.false_eq_true,if_false];exact hrest _ _ (fun t ht=>by rw [e1 τ t ht];exact h1 t ht) (fun hr=>by rw [e2 τ hr];exact h2 hr) (fun a ha=>by rw [e3 τ a ha];exact h4 a ha) h3
   ·obtain ⟨e1,e2,e3⟩:=skipL (hx (by rw [hS,hS'];decide));simp only [if_true,Bool.false_eq_true,if_false];exact hrest _ _ (fun t ht=>by rw [e1 σ t ht];exact h1 t ht) (fun hr=>by rw [e2 σ hr];exact h2 hr) (fun a ha=>by rw [e3 σ a ha];exact h4 a ha) h3
   simp only [if_true];refine hrest _ _ (fun t ht => ?_) (fun hr => ?_) (fun a ha => ?_) h3
   ·rw [a4F,a4F,h1 t ht]
   ·rw [a1Z,a1Z,h2 hr]
   rw [a1Z,a1Z];cases x.heap with
   | none=>exact b2b (h4 a ha)
   | some _=>rfl
def b6U (acc:List Nat) (o:Oper):Nat:=o.after.toList.foldl (fun s e=>if Region.binds .any e then s ||| 2 ^ e.on ||| acc.getD e.on 0 else s) 0
def a3y:List Oper->List Nat->List Nat
 | [],acc=>acc
 | o::os,acc=>a3y os (acc++[b6U acc o])
def a5m:Nat->List Oper->Bool
 | _,[]=>true
 | i,o::os=>o.after.toList.all (fun e => !Region.binds .any e||decide (e.on<i))&&a5m (i+1) os
def b6V (ms:List Nat) (fs:List Foot):Bool :=
 (List.range fs.length).all fun j=>(List.range j).all fun i=>(ms.getD j 0).testBit i ||
  match fs[i]?,fs[j]? with
  | some x,some y => !(x.clash y) && !(y.clash x)
  | _,_=>true
def a2y (ops:List Oper) (fs:List Foot):Bool:=a5m 0 ops&&b6V (a3y ops []) fs
def Closed (ops:Array Oper) (S:Nat->Bool):Prop := ∀ (j:Nat) (o:Oper),ops[j]?=some o->S j=true -> ∀ e∈o.after,Region.binds .any e=true->S e.on=true
theorem a4k {acc:List Nat} {i:Nat} : ∀ (l:List Edge) (s:Nat),(l.foldl (fun s e=>if Region.binds .any e then s ||| 2 ^ e.on ||| acc.getD e.on 0 else s) s).testBit i=true ->
  s.testBit i=true \/ ∃ e∈l,Region.binds .any e=true/\(e.on=i\/(acc.getD e.on 0).testBit i=true)
 | [],s,h => .inl h
 | e::r,s,h=>by
   simp only [List.foldl_cons] at h;rcases a4k r _ h with h | ⟨e',he',h1,h2⟩
   ·split at h
    ·rename_i hb;simp only [Nat.testBit_or,Bool.or_eq_true,Nat.testBit_two_pow] at h;rcases h with (h | h) | h
     ·exact .inl h
     ·exact .inr ⟨e,by simp,hb,.inl (by simpa using h)⟩
     exact .inr ⟨e,by simp,hb,.inr h⟩
    exact .inl h
   exact .inr ⟨e',by simp [he'],h1,h2⟩
def b3C (ops:Array Oper) (acc:List Nat):Prop := ∀ (j:Nat) (o:Oper),j<acc.length->ops[j]?=some o -> ∀ i,(acc.getD j 0).testBit i=true -> ∀ S,Closed ops S->(∀ e∈o.after,Region.binds .any e=true->S e.on=true)->S i=true
theorem b0u {ops:Array Oper} : ∀ (l:List Oper) (acc:List Nat),(∀ (k:Nat),ops[acc.length+k]?=l[k]?)->b3C ops acc->b3C ops (a3y l acc)
 | [],acc,_,h=>h
 | o::os,acc,hl,h=>by
   refine b0u os _ (fun k => ?_) ?_
   ·have:=hl (k+1);simp at this ⊢;rw [<-this];congr 1;omega
   intro j o' hj ho' i hi S hS hpre;by_cases hja:j<acc.length
   ·rw [List.getD_eq_getElem?_getD,zp7 hja,<-List.getD_eq_getElem?_getD] at hi;exact h j o' hja ho' i hi S hS hpre
   have hje:j=acc.length:=by simp at hj;omega
   subst hje;have ho0:=hl 0;simp at ho0;rw [ho0] at ho';injection ho' with ho';subst ho'
   rw [List.getD_eq_getElem?_getD,zp8 (Nat.le_refl _)] at hi;simp [b6U] at hi;rw [<-Array.foldl_toList] at hi;rcases a4k _ _ hi with hi | ⟨e,he,hb,hi⟩
   ·simp at hi
   have hSe:=hpre e (by simpa using he) hb;rcases hi with rfl | hi
   ·exact hSe
   have hlt:e.on<acc.length:=by
    rcases Nat.lt_or_ge e.on acc.length with h1 | h1
    ·exact h1
    rw [List.getD_eq_getElem?_getD,List.getElem?_eq_none h1] at hi;simp at hi
   cases hoe:ops[e.on]? with
   | none =>
     have h2:acc.length<ops.size:=(Array.getElem?_eq_some_iff.1 ho0).1;rw [Array.getElem?_eq_getElem (by omega)] at hoe;cases hoe
   | some oe=>exact h e.on oe hlt hoe i hi S hS (fun e' he' hb'=>hS e.on oe hoe hSe e' he' hb')
def a2o (P:Program) (m:Nat) (ops:Array Oper) (i:Nat) (σ:St) (x:Rec):Prop :=
 ∀ (τ:St),(∀ t∈x.rd,τ.get t=σ.get t)->(x.hr=true->τ.heap=σ.heap)->(∀ a∈x.ho,τ.heap[a]?=σ.heap[a]?)->τ.n=σ.n->m<=τ.heap.length ->
   m<=(x.app τ).heap.length /\
   ∀ (r:Option Nat) (n:Nat) (G:Gh) (a:Act) (w:World) (Q':Exit->Act->World->Prop) (K:Act->World->Prop),Rel G τ a w ->
     (∀ G' a' w',Rel G' (x.app τ) a' w'->Ext m G w G' w'->K a' w')->wpOpIn (Wd r) n P ops Q' i K a w
inductive DSteps (P:Program) (m:Nat) (ops:Array Oper):Nat->List Oper->St->List Rec->St->Prop
 | nil (i:Nat) (σ:St):DSteps P m ops i [] σ [] σ
 | cons (i:Nat) (o:Oper) (os:List Oper) (σ σ':St) (x:Rec) (xs:List Rec) (h:a2o P m ops i σ x) (hs:DSteps P m ops (i+1) os (x.app σ) xs σ'):DSteps P m ops i (o::os) σ (x::xs) σ'
theorem DSteps.get {P:Program} {m:Nat} {ops:Array Oper} {i:Nat} {l:List Oper} {σ σ':St} {xs:List Rec} (h:DSteps P m ops i l σ xs σ') :
  xs.length=l.length/\σ'=a0t (fun _=>true) i xs σ /\ ∀ (q:Nat) (hq:q<xs.length),a2o P m ops (i+q) (a0t (fun k=>decide (k<i+q)) i xs σ) xs[q]:=by
 induction h with
 | nil i σ=>exact ⟨rfl,rfl,fun q hq=>by simp at hq⟩
 | cons i o os σ σ' x xs h _ ih =>
   obtain ⟨h1,h2,h3⟩:=ih;refine ⟨by simp [h1],by simpa [a0t] using h2,fun q hq => ?_⟩;cases q with
   | zero =>
     have hz : ∀ (l:List Rec) (k:Nat) (τ:St),i<k->a0t (fun k=>decide (k<i+0)) k l τ=τ:=by
      intro l
      induction l with
      | nil=>intro k τ _;rfl
      | cons y r ih =>
        intro k τ hk;simp only [a0t];rw [if_neg (by simp;omega)];exact ih (k+1) τ (by omega)
     simp only [a0t];rw [if_neg (by simp),hz xs (i+1) σ (by omega)];exact h
   | succ q =>
     have:=h3 q (by simpa using hq);simp only [a0t];rw [if_pos (by simp)];rw [show i+(q+1)=i+1+q by omega];simpa using this
theorem a5O {p p':Nat->Bool} {i:Nat} (hp:p i=true) (hp':p' i=false) (hne : ∀ k,k≠i->p' k=p k) : ∀ (l:List Nat),l.Nodup->i∈l->l.countP p'+1=l.countP p
 | [],_,h=>by simp at h
 | k::r,hn,h=>by
   simp at hn;simp only [List.countP_cons];by_cases hk:k=i
   ·subst hk;have:r.countP p'=r.countP p:=List.countP_congr fun q hq=>by rw [hne q (by rintro rfl;exact hn.1 hq)]
    simp [hp,hp',this]
   have ih:=a5O hp hp' hne r hn.2 (by simp at h;rcases h with h | h;exact absurd h.symm hk;exact h)
   rw [hne k hk];omega
theorem a7n (i:Nat) : ∀ (l:List Rec) (σ:St),a0t (fun _=>false) i l σ=σ:=by
 intro l
 induction l generalizing i with
 | nil=>intro σ;rfl
 | cons x r ih=>intro σ;simp only [a0t];exact ih (i+1) σ
theorem AWp.regionD {P:Program} {m:Nat} {ops:Array Oper} {id:Nat} {Q:Exit->St->Prop} {σ σ':St} {xs:List Rec} (hmix:P.follows .mixedOrders=true) (hm0:m<=σ.heap.length)
  (h:DSteps P m ops 0 ops.toList σ xs σ') (hok:a2y ops.toList (xs.map Rec.foot)=true) (hq:Q .normal σ'):AWp P m (.region id ops true) Q σ:=by
 obtain ⟨hlen,hfin,hst⟩:=h.get;have hlen':xs.length=ops.size:=by simpa using hlen
 simp only [a2y,zp4] at hok;obtain ⟨hback,hpair⟩:=hok;have hmask:b3C ops (a3y ops.toList []):=b0u ops.toList [] (fun k=>by simp) (fun j o hj=>by simp at hj);have hbk : ∀ (j:Nat) (o:Oper),ops[j]?=some o -> ∀ e∈o.after,Region.binds .any e=true->e.on<j:=by
  have gen : ∀ (l:List Oper) (i:Nat),a5m i l=true -> ∀ (k:Nat) (o:Oper),l[k]?=some o -> ∀ e∈o.after,Region.binds .any e=true->e.on<i+k:=by
   intro l
   induction l with
   | nil=>intro i _ k o ho;simp at ho
   | cons o' os ih =>
     intro i hb k o ho e he hbi;simp only [a5m,zp4,List.all_eq_true] at hb;cases k with
     | zero =>
       simp at ho;subst ho;have:=hb.1 e (by simpa using he);simp [hbi] at this;omega
     | succ k =>
       have:=ih (i+1) hb.2 k o (by simpa using ho) e he hbi;omega
  intro j o ho e he hbi;have:=gen ops.toList 0 hback j o (by simpa using ho) e he hbi;omega
 have hpr : ∀ (i j:Nat) (hi:i<xs.length) (hj:j<xs.length),i<j->((a3y ops.toList []).getD j 0).testBit i=true\/((xs[i]).foot.clash xs[j].foot=false/\(xs[j]).foot.clash xs[i].foot=false):=by
  intro i j hi hj hij;simp only [b6V,List.all_eq_true,List.mem_range,List.length_map] at hpair;have:=hpair j hj i hij;simp only [Bool.or_eq_true] at this;rcases this with h | h
  ·exact .inl h
  right;simpa [List.getElem?_map,zp1 hi,zp1 hj] using h
 intro r n G a w hm R;refine wpIn_region_any hmix ?_

 have key : ∀ (fuel:Nat) (listed:Array Bool) (G1:Gh) (a:Act) (w1:World),listed.size=ops.size->Closed ops (fun k=>listed.getD k false)->(List.range ops.size).countP (fun k => !listed.getD k false)<=fuel ->
   Rel G1 (a0t (fun k=>listed.getD k false) 0 xs σ) a w1->Ext m G w G1 w1->m<=(a0t (fun k=>listed.getD k false) 0 xs σ).heap.length->wpAnyIn (Wd r) n P .any ops (Post m G w Q) fuel listed a w1:=by
  have hgd : ∀ (listed:Array Bool),listed.size=ops.size -> ∀ k,k<ops.size->listed.getD k true=listed.getD k false:=by
   intro listed hsz k hk;have:k<listed.size:=by omega
   simp [Array.getD,this]
  have hall : ∀ (listed:Array Bool),listed.size=ops.size->Region.ready .any ops listed=[] -> ∀ k,k<ops.size->listed.getD k false=true:=by
   intro listed hsz hre k
   induction k using Nat.strongRecOn with
   | _ k ih =>
     intro hk;cases hl:listed.getD k false with
     | true=>rfl
     | false =>
       have:k∈Region.ready .any ops listed:=by
        refine mem_ready.2 ⟨by rw [hgd listed hsz k hk];exact hl,ops[k],Array.getElem?_eq_getElem hk,fun e he hb => ?_⟩;have hlt:=hbk k _ (Array.getElem?_eq_getElem hk) e he hb;exact ih e.on hlt (by omega)
       rw [hre] at this;cases this
  have hdone : ∀ (listed:Array Bool) (G1:Gh) (a:Act) (w1:World),listed.size=ops.size->(∀ k,k<ops.size->listed.getD k false=true)->Rel G1 (a0t (fun k=>listed.getD k false) 0 xs σ) a w1->Ext m G w G1 w1 ->
    m<=(a0t (fun k=>listed.getD k false) 0 xs σ).heap.length->Post m G w Q .normal a w1:=by
   intro listed G1 a w1 hsz hl R1 hE hmh;have e:a0t (fun k=>listed.getD k false) 0 xs σ=σ':=by
    rw [hfin];exact a1S 0 xs σ (fun j _ hj=>hl j (by omega))
   rw [e] at R1 hmh;exact ⟨σ',G1,R1,hE,by rw [<-R1.h.nh];exact hmh,hq⟩
  intro fuel
  induction fuel with
  | zero =>
    intro listed G1 a w1 hsz hcl hcnt R1 hE hmh;have hl : ∀ k,k<ops.size->listed.getD k false=true:=by
     intro k hk;have h0:(List.range ops.size).countP (fun k => !listed.getD k false)=0:=by omega
     have:=List.countP_eq_zero.1 h0 k (List.mem_range.2 hk);simpa using this
    refine ⟨?_,hdone listed G1 a w1 hsz hl R1 hE hmh⟩;cases hre:Region.ready .any ops listed with
    | nil=>rfl
    | cons k rest =>
      have hk:k∈Region.ready .any ops listed:=by rw [hre];simp
      obtain ⟨h1,o,h2,_⟩:=mem_ready.1 hk;have hlt:k<ops.size:=(Array.getElem?_eq_some_iff.1 h2).1;rw [hgd listed hsz k hlt,hl k hlt] at h1;cases h1
  | succ fuel ih =>
    intro listed G1 a w1 hsz hcl hcnt R1 hE hmh;refine ⟨fun hready=>hdone listed G1 a w1 hsz (hall listed hsz hready) R1 hE hmh,fun i hi => ?_⟩;obtain ⟨hun,o,ho,hpre⟩:=mem_ready.1 hi;have hlt:i<ops.size:=(Array.getElem?_eq_some_iff.1 ho).1;rw [hgd listed hsz i hlt] at hun;have hix:i<xs.length:=by omega
    have hpre' : ∀ e∈o.after,Region.binds .any e=true->listed.getD e.on false=true:=hpre

    have hsame:=a4W (fun k=>listed.getD k false) (fun k=>decide (k<0+i)) (xs[i]).foot 0 xs σ σ (fun j hj hne=>by
     simp only [Nat.zero_add] at hne ⊢;rcases Nat.lt_trichotomy j i with h | h | h
     ·have hlj:listed.getD j false=false:=by
       cases hh:listed.getD j false with
       | false=>rfl
       | true=>simp [hh,h] at hne
      rcases hpr j i hj hix h with hb | hb
      ·have:=hmask i o (by
        have:(a3y ops.toList []).length=ops.size:=by
         have gl : ∀ (l:List Oper) (acc:List Nat),(a3y l acc).length=acc.length+l.length:=by
          intro l
          induction l with
          | nil=>intro acc;simp [a3y]
          | cons o os ih=>intro acc;simp [a3y,ih];omega
         simpa using gl ops.toList []
        omega) ho j hb _ hcl hpre'
       rw [hlj] at this;cases this
      exact Foot.spares_left hb.1
     ·subst h;simp [hun] at hne
     have hlj:listed.getD j false=true:=by
      cases hh:listed.getD j false with
      | true=>rfl
      | false=>simp [hh] at hne;omega
     rcases hpr i j hix hj h with hb | hb
     ·have hoj:ops[j]?=some (ops[j]'(by omega)):=Array.getElem?_eq_getElem (by omega);have:=hmask j _ (by
       have:(a3y ops.toList []).length=ops.size:=by
        have gl : ∀ (l:List Oper) (acc:List Nat),(a3y l acc).length=acc.length+l.length:=by
         intro l
         induction l with
         | nil=>intro acc;simp [a3y]
         | cons o os ih=>intro acc;simp [a3y,ih];omega
        simpa using gl ops.toList []
       omega) hoj i hb _ hcl (fun e he hbi=>hcl j _ hoj hlj e he hbi)
      have this:listed.getD i false=true:=this;rw [hun] at this;cases this
     exact Foot.spares_left hb.2) (fun _ _=>rfl) (fun _=>rfl) (fun _ _=>rfl) rfl
    have hL:=hst i hix;simp only [Nat.zero_add] at hL hsame;obtain ⟨hmh',hL⟩:=hL (a0t (fun k=>listed.getD k false) 0 xs σ) hsame.1 hsame.2.1 hsame.2.2.1 hsame.2.2.2 hmh;refine hL r n G1 a w1 _ _ R1 fun G' a' w' R' hE' => ?_;have hset : ∀ k,k<ops.size->(listed.setIfInBounds i true).getD k false=(k == 0+i||listed.getD k false):=by
     intro k hk;have hkl:k<listed.size:=by omega
     by_cases hki:k=i
     ·subst hki;simp [Array.getD,hkl]
     have : ¬ i=k:=fun e=>hki e.symm;simp [zp5,Array.getElem?_setIfInBounds_ne this,hki]
    have hal:Alike (a0t (fun k=>(listed.setIfInBounds i true).getD k false) 0 xs σ) ((xs[i]).app (a0t (fun k=>listed.getD k false) 0 xs σ)):=by
     rw [a1S (S':=fun k=>k == 0+i||listed.getD k false) 0 xs σ (fun j _ hj=>hset j (by omega))];refine a5N (fun k=>listed.getD k false) i 0 xs σ hix (by simpa using hun) (fun j hj hij hSj => ?_);simp only [Nat.zero_add] at hSj;rcases hpr i j hix hj hij with hb | hb
     ·have hoj:ops[j]?=some (ops[j]'(by omega)):=Array.getElem?_eq_getElem (by omega);have:=hmask j _ (by
       have:(a3y ops.toList []).length=ops.size:=by
        have gl : ∀ (l:List Oper) (acc:List Nat),(a3y l acc).length=acc.length+l.length:=by
         intro l
         induction l with
         | nil=>intro acc;simp [a3y]
         | cons o os ih=>intro acc;simp [a3y,ih];omega
        simpa using gl ops.toList []
       omega) hoj i hb _ hcl (fun e he hbi=>hcl j _ hoj hSj e he hbi)
      have this:listed.getD i false=true:=this;rw [hun] at this;cases this
     exact hb.1
    refine ih (listed.setIfInBounds i true) G' a' w' (by simpa using hsz) ?_ ?_ (R'.alike hal.symm) (hE.trans hE') (by rw [hal.heap];exact hmh')
    ·intro j oj hoj hSj e he hb;have hj:j<ops.size:=(Array.getElem?_eq_some_iff.1 hoj).1;have heon:e.on<ops.size:=Nat.lt_trans (hbk j oj hoj e he hb) hj;simp only [hset j hj,Nat.zero_add] at hSj;simp only [hset e.on heon,Nat.zero_add,Bool.or_eq_true];simp only [Bool.or_eq_true,beq_iff_eq] at hSj;rcases hSj with rfl | hSj
     ·rw [ho] at hoj;injection hoj with hoj;subst hoj
      exact .inr (hpre' e he hb)
     exact .inr (hcl j oj hoj hSj e he hb)
    have:=a5O (p:=fun k => !listed.getD k false) (p':=fun k => !(listed.setIfInBounds i true).getD k false) (i:=i) (by simp [hun]) (by
     have:i<listed.size:=by omega
     simp [Array.getD,this]) (fun k hk=>by
      have : ¬ i=k:=fun e=>hk e.symm;simp [zp5,Array.getElem?_setIfInBounds_ne this]) (List.range ops.size) List.nodup_range (List.mem_range.2 hlt)
    omega
 have hrep : ∀ k,(Array.replicate ops.size false).getD k false=false:=by
  intro k;simp only [zp5,Array.getElem?_replicate];split <;> rfl
 have hst0:a0t (fun k=>(Array.replicate ops.size false).getD k false) 0 xs σ=σ:=by
  rw [a1S (S':=fun _=>false) 0 xs σ (fun j _ _=>hrep j),a7n]
 refine key ops.size (Array.replicate ops.size false) G a _ (by simp) (fun j o _ hS=>by simp only [hrep] at hS;cases hS) ?_ (by rw [hst0];exact R.drew rfl) (Ext.drew (w1:=_) rfl rfl rfl) (by rw [hst0];exact hm0);exact Nat.le_trans List.countP_le_length (by simp)
section
variable {P:Program} {T:a0i} {m:Nat} {ops:Array Oper} {an:Ann} {σ:St} {i:Nat} {o:Oper}
theorem a3F {τ:St} (h : ∀ t∈a0n ops.toList o,τ.get t=σ.get t):a2l ops.toList τ o=a2l ops.toList σ o:=by
 unfold a2l;cases hg:o.guard with
 | none=>rfl
 | some p =>
   obtain ⟨j,b⟩:=p;simp only;cases hd:(ops.toList[j]?).bind (·.dst) with
   | none=>rfl
   | some d =>
     have:τ.get d=σ.get d:=h d (by
      unfold a0n;simp only [hg,List.mem_append];right;rw [hd];simp)
     simp only [this]
theorem a8z {g g':Nat->AV} {rd:List Nat} (h : ∀ t∈rd,g' t=g t):only rd g'=only rd g:=by
 funext t;unfold only;split
 ·rename_i hc;exact h t (by simpa using hc)
 rfl
theorem a8A {A:Ar} {n:Nat} {g:Nat->AV} {H H':List Obj} {a:Nat} {ss:a1C} (hl:c2k g o=some a) (hH:H[a]?=H'[a]?) (h:a2s A T an n g H o=some (ss,none)):a2s A T an n g H' o=some (ss,none):=by
 unfold c2k at hl;split at hl
 ·rename_i t i hop;split at hl
  ·rename_i a' off hg;cases hl;have e1:a4c A T an n g o=none:=by
    unfold a4c;cases o.dst with
    | none=>rfl
    | some d=>simp only [hop];split <;> rfl
   have e2 : ∀ H,a2r A T an n g H o=none:=fun H=>by unfold a2r;simp only [hop]
   have e4 : ∀ H,a6T A T an n g H o=none:=fun H=>by unfold a6T;simp only [hop]
   have e7 : ∀ H,a6W A T n g H o=none:=fun H=>by unfold a6W;simp only [hop]
   have e5 : ∀ H,a6V A T an n g H o=none:=fun H=>by unfold a6V;simp only [hop,hg]
   have e6 : ∀ H,a6U A T an n g H o=none:=fun H=>by unfold a6U;simp only [hop,hg]
   have e8 : ∀ H,b2M A T an n g H o=none:=fun H=>rfl;unfold a2s at h ⊢;rw [e1,e8,e7,e4,e6,e5,e2] at h ⊢;simp only at h ⊢;have e3:a0L A T n g H o=a0L A T n g H' o:=by
    unfold a0L;simp only [hop,a5d,a1M,hg,hH];split <;> try rfl
    rename_i heq;split at heq
    ·cases heq;simp only [hH]
    cases heq
   rw [<-e3];cases hob:a0L A T n g H o with
   | some r=>rw [hob] at h;exact h
   | none =>
     rw [hob] at h;simp only at h ⊢;unfold a0E at h ⊢;simp only [hop,adr,hg] at h ⊢;cases hT:T t with
     | none=>rw [hT] at h;exact h
     | some td =>
       rw [hT] at h;simp only at h ⊢;rw [<-hH];split at h <;> try (first | exact h | cases h)
       split at h <;> try (first | exact h | cases h)
       split at h
       ·exfalso;simp only [Option.map_eq_some_iff] at h;obtain ⟨p,_,hp⟩:=h;cases hp
       rename_i hc;rw [if_neg hc];exact h
  cases hl
 cases hl
theorem a2o.op (hT:TOk P T) (ho:ops[i]?=some o) {u:Upd} (hw:a2l ops.toList σ o=some true) (he:b9y Ar.std T an ops.toList σ o=some u) :
  a2o P m ops i σ { sets:=u.sets,heap:=u.heap,rd:=u.rd,hr:=u.hr,ho:=u.ho,low:=[] }:=by
 intro τ hrd hhr hho hn hm;have hu:=he;unfold b9y at he;simp only at he

 have fin : ∀ (ss:a1C) (h:Option (List Obj)) (H:List Obj),u.sets=ss->u.heap=h->u.rd=a7J σ.get ops.toList o->(∀ (i:Nat) (ob:Obj),H[i]?=some ob->τ.heap[i]?=some ob)->(a0P an (only (a7J σ.get ops.toList o) σ.get) o=true->H=τ.heap)->(h.isSome=true->H=τ.heap) ->
   a2s Ar.std T an τ.n (only (a7J σ.get ops.toList o) τ.get) H o=some (ss,h) ->
   m<=(Rec.app τ { sets:=u.sets,heap:=u.heap,rd:=u.rd,hr:=u.hr,ho:=u.ho,low:=[] }).heap.length /\
   ∀ (r:Option Nat) (n:Nat) (G:Gh) (a:Act) (w:World) (Q':Exit->Act->World->Prop) (K:Act->World->Prop),Rel G τ a w ->
   (∀ G' a' w',Rel G' (Rec.app τ { sets:=u.sets,heap:=u.heap,rd:=u.rd,hr:=u.hr,ho:=u.ho,low:=[] }) a' w'->Ext m G w G' w'->K a' w')->wpOpIn (Wd r) n P ops Q' i K a w:=by
  rintro ss h H rfl rfl hrdu hH hHe hHs hev';have hrd' : ∀ t∈a7J σ.get ops.toList o,τ.get t=σ.get t:=by rw [<-hrdu];exact hrd
  have e1:only (a7J σ.get ops.toList o) τ.get=only (a7J σ.get ops.toList o) σ.get:=a8z hrd';have hw':a2l ops.toList τ o=some true:=by
   rw [a3F (σ:=σ) (τ:=τ) (fun t ht=>hrd' t (by unfold a7J;simp [ht]))];exact hw
  have hless:Less (only (a7J σ.get ops.toList o) τ.get) τ:=by
   intro t;unfold only;split
   ·exact .inl rfl
   exact .inr rfl
  have hstep:=a8v hT hless (fun d hd=>by
   unfold only;rw [if_pos];simp [a7J,a0n,hd]) hH (fun hh=>hHe (by rw [e1] at hh;exact hh)) hev'
  have hlen:τ.heap.length<=(τ.upd u.sets u.heap).heap.length:=by
   cases hh:u.heap with
   | none=>exact Nat.le_refl _
   | some H' =>
     rw [hh] at hev';rw [hHs (by rw [hh];rfl)] at hev';exact a6D hev'
  have happ:Rec.app τ { sets:=u.sets,heap:=u.heap,rd:=u.rd,hr:=u.hr,ho:=u.ho,low:=[] }=τ.upd u.sets u.heap:=rfl;rw [happ];refine ⟨Nat.le_trans hm hlen,fun r n G a w Q' K R hK => ?_⟩;unfold wpOpIn;simp only [ho];rw [if_pos (a2m hw' R)];exact hstep r n m G a w Q' K (by rw [<-R.h.nh];exact hm) R hK
 have key : ∀ (rd:List Nat),rd=u.rd->u.rd=a7J σ.get ops.toList o->only (a7J σ.get ops.toList o) τ.get=only (a7J σ.get ops.toList o) σ.get:=by
  rintro rd _ hrdu;exact a8z (by rw [<-hrdu];exact hrd)
 split at he
 ·rename_i a hloc;split at he
  ·rename_i ss hev;cases he;have e1:=key _ rfl rfl;refine fin ss none τ.heap rfl rfl rfl (fun _ _ h=>h) (fun _=>rfl) (fun _=>rfl) ?_;rw [e1,hn];exact a8A hloc (hho a (by simp)).symm hev
  ·rename_i ss h hev;cases he;have e1:=key _ rfl rfl;refine fin ss (some h) τ.heap rfl rfl rfl (fun _ _ h=>h) (fun _=>rfl) (fun _=>rfl) ?_;rw [e1,hn,hhr rfl];exact hev
  cases he
 split at he
 ·rename_i ss h hev;split at he
  ·rename_i hcond;cases he;have e1:=key _ rfl rfl;refine fin ss h (if a0P an (only (a7J σ.get ops.toList o) σ.get) o then τ.heap else []) rfl rfl rfl (fun i ob hob => ?_) (fun hh=>by rw [if_pos hh]) (fun hs => ?_) ?_
   ·split at hob
    ·exact hob
    simp at hob
   ·cases h with
    | none=>cases hs
    | some H'=>rw [if_pos (by simpa using hcond)]
   rw [e1,hn];cases hh:a0P an (only (a7J σ.get ops.toList o) σ.get) o with
   | true=>rw [if_pos rfl,hhr hh];simpa [hh] using hev
   | false=>simpa [hh] using hev
  cases he
 cases he
theorem a2o.skip (ho:ops[i]?=some o) {d:Nat} (hw:a2l ops.toList σ o=some false) (hd:o.dst=some d) (hlt:d<σ.n) (hb:(σ.get d).isBox=false) :
  a2o P m ops i σ { sets:=[(d,.tuple [])],heap:=none,rd:=a0n ops.toList o,hr:=false,ho:=[],low:=[] }:=by
 intro τ hrd _ _ hn hm;refine ⟨hm,fun r n G a w Q' K R hK => ?_⟩;have hdm:d∈a0n ops.toList o:=by simp [a0n,hd]
 unfold wpOpIn;simp only [ho];rw [a2m (b:=false) (by rw [a3F (σ:=σ) hrd];exact hw) R,if_neg (by simp)];refine ⟨fun _ _=>trivial,?_⟩;rw [hd];exact hK G _ w (R.put (.tuple _ _ #[] rfl (fun i hi=>by simp at hi) (fun c hc=>by simp at hc)) (fun r off e=>by cases e) (by rw [hrd d hdm];exact hb) (by rw [hn];exact hlt)) (Ext.refl _ _ _)
theorem a5P {τ:St} (h : ∀ t∈a0n ops.toList o,τ.get t=σ.get t):a2x T τ o=a2x T σ o:=by
 unfold a2x;cases hop:o.op <;> try rfl
 rename_i c;obtain ⟨callee,args,ts⟩:=c;cases callee with
 | value x =>
   simp only;have hsl : ∀ t,(Operand.tmp t=x\/Operand.tmp t∈args)->τ.get t=σ.get t:=by
    intro t ht;refine h t ?_;unfold a0n;simp only [hop,Op.operands,Call.operands,List.mem_append,List.mem_flatMap];left;left;rcases ht with rfl | ht
    ·exact ⟨.tmp t,by simp,by simp [a3Z]⟩
    exact ⟨.tmp t,by simp [ht],by simp [a3Z]⟩
   have e1 : ∀ (ps:List (Operand×TypeId)),(∀ p∈ps,p.1∈args)->(ps.mapM fun p=>opv T τ.get p.2 p.1)=ps.mapM fun p=>opv T σ.get p.2 p.1:=by
    intro ps
    induction ps with
    | nil=>intro _;rfl
    | cons p r ih =>
      intro hp;simp only [List.mapM_cons];rw [ih (fun q hq=>hp q (by simp [hq]))];have:opv T τ.get p.2 p.1=opv T σ.get p.2 p.1:=by
       cases hp1:p.1 with
       | tmp t=>simp only [opv];rw [hsl t (.inr (by have:=hp p (by simp);rw [hp1] at this;exact this))]
       | _=>rfl
      rw [this]
   have e2:(args.toList.zip ts.toList).mapM (fun p=>opv T τ.get p.2 p.1)=(args.toList.zip ts.toList).mapM fun p=>opv T σ.get p.2 p.1:=e1 _ (fun p hp=>by
    have:=(List.of_mem_zip hp).1;simpa using this)
   rw [e2];cases x with
   | tmp t=>simp only [hsl t (.inl rfl)]
   | _=>rfl
 | invoke x name =>
   cases x with
   | tmp t =>
     simp only;have hsl : ∀ s,(s=t\/Operand.tmp s∈args)->τ.get s=σ.get s:=by
      intro s hs;refine h s ?_;unfold a0n;simp only [hop,Op.operands,Call.operands,List.mem_append,List.mem_flatMap];left;left;rcases hs with rfl | hs
      ·exact ⟨.tmp s,by simp,by simp [a3Z]⟩
      exact ⟨.tmp s,by simp [hs],by simp [a3Z]⟩
     have e1 : ∀ (ps:List (Operand×TypeId)),(∀ p∈ps,p.1∈args)->(ps.mapM fun p=>opv T τ.get p.2 p.1)=ps.mapM fun p=>opv T σ.get p.2 p.1:=by
      intro ps
      induction ps with
      | nil=>intro _;rfl
      | cons p r ih =>
        intro hp;simp only [List.mapM_cons];rw [ih (fun q hq=>hp q (by simp [hq]))];have:opv T τ.get p.2 p.1=opv T σ.get p.2 p.1:=by
         cases hp1:p.1 with
         | tmp t=>simp only [opv];rw [hsl t (.inr (by have:=hp p (by simp);rw [hp1] at this;exact this))]
         | _=>rfl
        rw [this]
     have e2:(args.toList.zip ts.toList).mapM (fun p=>opv T τ.get p.2 p.1)=(args.toList.zip ts.toList).mapM fun p=>opv T σ.get p.2 p.1:=e1 _ (fun p hp=>by
      have:=(List.of_mem_zip hp).1;simpa using this)
     rw [e2,hsl t (.inl rfl)]
   | _=>rfl
 | _=>rfl
theorem a2o.call (hT:TOk P T) (ho:ops[i]?=some o) {f:FuncId} {args:List AV} {r:AV} {d:Nat} (hw:a2l ops.toList σ o=some true) (hcall:a2x T σ o=some (f,args)) (hargs:a3k 0 args=true)
  (hd:o.dst=some d) (hlt:d<σ.n) (hb:(σ.get d).isBox=false) (hfr:args.all AV.free=true) (hc:a0e P f args [] r []) :
  a2o P m ops i σ { sets:=[(d,r)],heap:=none,rd:=a0n ops.toList o,hr:=false,ho:=[],low:=[] }:=by
 intro τ hrd _ _ hn hm;refine ⟨hm,fun rr n G a w Q' K R hK => ?_⟩;have hdm:d∈a0n ops.toList o:=by simp [a0n,hd]
 have hbτ:(τ.get d).isBox=false:=by rw [hrd d hdm];exact hb
 unfold wpOpIn;simp only [ho];rw [if_pos (a2m (b:=true) (by rw [a3F (σ:=σ) hrd];exact hw) R)];obtain ⟨hcb,hrl,hri,hin',hHH,hcc⟩:=hc;obtain ⟨hnd,vs,hrun,hvs,hrep⟩:=a5L hT (by rw [a5P (σ:=σ) hrd];exact hcall) hcb R;have RH:RelH G ([]++τ.heap) w:=R.h;have hRh:=RH.handed (H:=[]) rfl;have hfr' : ∀ c∈args,c.free=true:=by simpa using hfr
 have hsub:Sub G (G.handed 0) w w (fun ℓ=>ℓ = .no) 0 :=
  ⟨KLe.refl _,fun b ℓ f hl hO=>absurd (hl▸rfl) (R.h.sane.no b ℓ f hO),fun _ _=>rfl,Nat.le_refl _⟩
 refine ⟨fun _ _=>trivial,?_⟩;rw [Oper.semAt_eq _ _ _ hnd,hrun];refine ⟨fun hh=>by simp [Wd] at hh,?_⟩;refine CallsIn.mono (a4D (hcc (n-1) (G.handed 0) w vs hvs (fun i hi => ?_) hRh (fun b ℓ f hO => ?_))) ?_
 ·exact (hrep i hi).sub R.h.sane hsub rfl (a0U hargs i hi) (AV.free_isLocal (hfr' _ (zp6 hi)))
 ·have:=(a2n hO).2;cases ℓ <;> simp [a1h] at this
 rintro e w' ⟨v,G3,rfl,hv,R3,hE⟩;obtain ⟨R',hext⟩:=R.back (H:=[]) (rest:=τ.heap) rfl (.inr rfl) hHH R3 hE hin' hv hrl hri (by rw [hn];exact hlt) hbτ;show K (a.put o.dst v) w';rw [hd];refine hK _ _ w' ?_ (hext m (by rw [<-R.h.nh];exact hm));simpa [Rec.app,St.upd,a0r,a3n] using R'
end
inductive OutD where
 | done (σ:St) (xs:List Rec)
 | call (f:FuncId) (args:List AV) (o:Oper) (rest:List Oper) (σ:St) (xs:List Rec)
 | yield (y:Nat) (args:List AV) (o:Oper) (rest:List Oper) (σ:St) (xs:List Rec)
 | stuck
def b5J (σ:St) (o:Oper) (h:Option (List Obj)):Option Nat :=
 match o.op with
 | .store _ (.tmp s) _ =>
   match σ.get s,h with
   | .eptr a _ _ _,some _=>some a
   | _,_=>none
 | _=>none
def a8B (A:Ar) (T:a0i) (an:Ann) (all:List Oper):List Oper->St->List Rec->OutD
 | [],σ,xs => .done σ xs
 | o::os,σ,xs =>
   match a2l all σ o with
   | some true =>
     match a2x T σ o with
     | some (f,args) => .call f args o os σ xs
     | none =>
       match callY T σ o with
       | some (y,args) => .yield y args o os σ xs
       | none =>
       match b9y A T an all σ o with
       | some u =>
         match b5J σ o u.heap with
         | some a=>a8B A T an all os (σ.upd u.sets u.heap) (xs++[{ sets:=u.sets,heap:=none,rd:=u.rd,hr:=true,ho:=u.ho,low:=(u.heap.getD []).take (a+1) }])
         | none=>a8B A T an all os (σ.upd u.sets u.heap) (xs++[{ sets:=u.sets,heap:=u.heap,rd:=u.rd,hr:=u.hr,ho:=u.ho,low:=[] }])
       | none => .stuck
   | some false =>
     match o.dst with
     | some d=>if decide (d<σ.n) && !(σ.get d).isBox then a8B A T an all os (σ.upd [(d,.tuple [])] none) (xs++[{ sets:=[(d,.tuple [])],heap:=none,rd:=a0n all o,hr:=false,ho:=[],low:=[] }]) else .stuck
     | none => .stuck
   | none => .stuck
def a0W (P:Program) (m:Nat) (ops:Array Oper) (l:List Oper) (xs:List Rec) (K:St->Prop) (σ:St):Prop :=
 ∃ (ys:List Rec) (σ':St),DSteps P m ops xs.length l σ ys σ'/\a2y ops.toList ((xs++ys).map Rec.foot)=true/\K σ'
section
variable {P:Program} {T:a0i} {m:Nat} {ops:Array Oper} {an:Ann} {K:St->Prop} {l:List Oper} {xs:List Rec} {σ:St}
theorem a0W.nil (hok:a2y ops.toList (xs.map Rec.foot)=true) (h:K σ):a0W P m ops [] xs K σ:=⟨[],σ,.nil _ _,by simpa using hok,h⟩
theorem a0W.cons {o:Oper} {x:Rec} (hs:a2o P m ops xs.length σ x) (h:a0W P m ops l (xs++[x]) K (x.app σ)):a0W P m ops (o::l) xs K σ:=by
 obtain ⟨ys,σ',h1,h2,h3⟩:=h;refine ⟨x::ys,σ',.cons _ _ _ _ _ _ _ hs (by simpa using h1),by simpa using h2,h3⟩
theorem b8i {ops:Array Oper} {o:Oper} {l:List Oper} {k:Nat} (hl:o::l=ops.toList.drop k):ops[k]?=some o/\l=ops.toList.drop (k+1):=by
 have h0:(ops.toList.drop k)[0]?=some o:=by rw [<-hl];rfl
 simp at h0;refine ⟨h0,?_⟩;have:=congrArg (List.drop 1) hl;simpa [List.drop_drop,Nat.add_comm] using this
def a7o (P:Program) (m:Nat) (ops:Array Oper) (T:a0i) (K:St->Prop):OutD->Prop
 | .done σ xs=>a2y ops.toList (xs.map Rec.foot)=true/\K σ
 | .call f args o rest σ xs=>a2x T σ o=some (f,args)->a2l ops.toList σ o=some true->ops[xs.length]?=some o->a0W P m ops (o::rest) xs K σ
 | .yield y args o rest σ xs=>callY T σ o=some (y,args)->a2l ops.toList σ o=some true->ops[xs.length]?=some o->a0W P m ops (o::rest) xs K σ
 | .stuck=>False
theorem a5Q {A:Ar} {an:Ann} {n:Nat} {g:Nat->AV} {H h:List Obj} {o:Oper} {t:TypeId} {s:Nat} {y:Operand} {a k:Nat} {i:Int} {j:Nat} {ss:a1C} (hop:o.op = .store t (.tmp s) y) (hg:g s = .eptr a k i j)
  (he:a2s A T an n g H o=some (ss,some h)) : ∃ ob,h=H.set a ob:=by
 have e1:a4c A T an n g o=none:=by
  unfold a4c;cases o.dst with
  | none=>rfl
  | some d=>simp only [hop];split <;> rfl
 have e2:a2r A T an n g H o=none:=by unfold a2r;simp only [hop]
 have e4:a6T A T an n g H o=none:=by unfold a6T;simp only [hop]
 have e7:a6W A T n g H o=none:=by unfold a6W;simp only [hop]
 have e6:a6U A T an n g H o=none:=by unfold a6U;simp only [hop,hg]
 unfold a2s at he;rw [e1] at he;cases hJ:b2M A T an n g H o with
 | some r=>cases hJ
 | none =>
 rw [hJ,e7,e4,e6] at he;cases hG:a6V A T an n g H o with
 | some r =>
   rw [hG] at he;simp only at he;subst he;unfold a6V at hG;simp only [hop,hg] at hG
   repeat' split at hG
   all_goals first
    | (cases hG;done)
    | (cases hG;exact ⟨_,rfl⟩)
 | none =>
 rw [hG,e2] at he;simp only at he;have e3:a5d g H (.tmp s) = .eptr a k i j:=by simp [a5d,a1M,hg]
 unfold a0L at he;simp only [hop,e3] at he
 repeat' split at he
 all_goals first
  | (cases he;done)
  | (cases he;exact ⟨_,rfl⟩)
theorem b3D {u:Upd} {a:Nat} {ob:Obj} {σ τ:St} (hh:u.heap=some (σ.heap.set a ob)) (hτ:true=true->τ.heap=σ.heap) :
  Rec.app τ { sets:=u.sets,heap:=none,rd:=u.rd,hr:=true,ho:=u.ho,low:=(u.heap.getD []).take (a+1) }=τ.upd u.sets u.heap:=by
 have hτ:=hτ rfl;unfold Rec.app;rw [hh];simp only [Option.getD_some,St.upd];congr 1;unfold a3n;rw [hτ];by_cases ha:a<σ.heap.length
 ·rw [show ((σ.heap.set a ob).take (a+1)).length=a+1 by simp;omega];have:σ.heap.drop (a+1)=(σ.heap.set a ob).drop (a+1):=by rw [List.drop_set,if_pos (by omega)]
  rw [Option.getD_none,this,List.take_append_drop]
 rw [List.set_eq_of_length_le (by omega),Option.getD_none,List.take_of_length_le (by omega)];simp
theorem a2o.low {i:Nat} {u:Upd} {a:Nat} {ob:Obj} (hh:u.heap=some (σ.heap.set a ob))
  (h:a2o P m ops i σ { sets:=u.sets,heap:=u.heap,rd:=u.rd,hr:=u.hr,ho:=u.ho,low:=[] }) :
  a2o P m ops i σ { sets:=u.sets,heap:=none,rd:=u.rd,hr:=true,ho:=u.ho,low:=(u.heap.getD []).take (a+1) }:=by
 intro τ hrd hhr hho hn hm;have:=h τ hrd (fun _=>hhr rfl) hho hn hm;rw [b3D hh hhr];exact this
theorem b3E {A:Ar} {an:Ann} {all:List Oper} {o:Oper} {u:Upd} {a:Nat} (hl:b5J σ o u.heap=some a) (he:b9y A T an all σ o=some u) : ∃ ob,u.heap=some (σ.heap.set a ob):=by
 unfold b5J at hl;split at hl <;> try cases hl
 rename_i t s y hop;obtain ⟨k,i,j,h,hg,huh⟩ : ∃ k i j h,σ.get s = .eptr a k i j/\u.heap=some h:=by
  cases hg:σ.get s with
  | eptr a' k i j =>
    cases hu:u.heap with
    | none=>rw [hg,hu] at hl;cases hl
    | some h=>rw [hg,hu] at hl;cases hl;exact ⟨_,_,_,_,rfl,rfl⟩
  | _=>rw [hg] at hl;simp at hl
 clear hl;unfold b9y at he;simp only at he;have hin:(only (a7J σ.get all o) σ.get) s=σ.get s:=by
  unfold only;rw [if_pos];simp [a7J,a0n,hop,Op.operands,a3Z]
 split at he
 ·rename_i a' hho;simp [c2k,hop] at hho
 split at he
 ·rename_i ss h' hev;split at he
  ·rename_i hcond;cases he;cases h' with
   | none=>cases huh
   | some H' =>
     cases huh;have hhr:a0P an (only (a7J σ.get all o) σ.get) o=true:=by simpa using hcond
     rw [if_pos hhr] at hev;obtain ⟨ob,e⟩:=a5Q hop (by rw [hin];exact hg) hev;exact ⟨ob,by rw [e]⟩
  cases he
 cases he
theorem a0W.run (hT:TOk P T) : ∀ (l:List Oper) (xs:List Rec) (σ:St),l=ops.toList.drop xs.length->a7o P m ops T K (a8B Ar.std T an ops.toList l σ xs)->a0W P m ops l xs K σ
 | [],xs,σ,_,h=>a0W.nil h.1 h.2
 | o::os,xs,σ,hl,h=>by
   obtain ⟨ho,hl'⟩:=b8i hl;unfold a8B at h;cases hw:a2l ops.toList σ o with
   | none=>simp [hw,a7o] at h
   | some b =>
     cases b with
     | true =>
       simp only [hw] at h;cases hc:a2x T σ o with
       | some p =>
         obtain ⟨f,args⟩:=p;simp only [hc] at h;exact h hc hw ho
       | none =>
         simp only [hc] at h;cases hy:callY T σ o with
         | some p =>
           obtain ⟨y,args⟩:=p;simp only [hy] at h;exact h hy hw ho
         | none =>
         simp only [hy] at h;cases he:b9y Ar.std T an ops.toList σ o with
         | none=>simp [he,a7o] at h
         | some u =>
           simp only [he] at h;cases hlo:b5J σ o u.heap with
           | none =>
             simp only [hlo] at h;exact a0W.cons (a2o.op hT ho hw he) (a0W.run hT os _ _ (by simpa using hl') h)
           | some a =>
             simp only [hlo] at h;obtain ⟨ob,hh⟩:=b3E hlo he;refine a0W.cons (a2o.low hh (a2o.op hT ho hw he)) (a0W.run hT os _ _ (by simpa using hl') ?_);rw [b3D hh (fun _=>rfl)];exact h
     | false =>
       simp only [hw] at h;cases hd:o.dst with
       | none=>simp [hd,a7o] at h
       | some d =>
         simp only [hd] at h;split at h
         ·rename_i hc;simp at hc;exact a0W.cons (a2o.skip ho hw hd hc.1 hc.2) (a0W.run hT os _ _ (by simpa using hl') h)
         exact h.elim
theorem a0W.done (hT:TOk P T) {σ':St} {xs':List Rec} (hl:l=ops.toList.drop xs.length) (h : ∀ A:Ar,A=Ar.std->a8B A T an ops.toList l σ xs = .done σ' xs') (hok:a2y ops.toList (xs'.map Rec.foot)=true) (hq:K σ'):a0W P m ops l xs K σ :=
 a0W.run (an:=an) hT l xs σ hl (by rw [h _ rfl];exact ⟨hok,hq⟩)
theorem a0W.stepCall (hT:TOk P T) {f:FuncId} {args:List AV} {o:Oper} {rest:List Oper} {σ1:St} {xs1:List Rec} {r:AV} {d:Nat} (hl:l=ops.toList.drop xs.length) (h : ∀ A:Ar,A=Ar.std->a8B A T an ops.toList l σ xs = .call f args o rest σ1 xs1)
  (hargs:a3k 0 args=true) (hd:o.dst=some d) (hlt:d<σ1.n) (hb:(σ1.get d).isBox=false) (hfr:args.all AV.free=true) (hc:a0e P f args [] r [])
  (k:a0W P m ops rest (xs1++[{ sets:=[(d,r)],heap:=none,rd:=a0n ops.toList o,hr:=false,ho:=[],low:=[] }]) K (σ1.upd [(d,r)] none)):a0W P m ops l xs K σ :=
 a0W.run (an:=an) hT l xs σ hl (by
  rw [h _ rfl];exact fun hcall hw ho=>a0W.cons (a2o.call hT ho hw hcall hargs hd hlt hb hfr hc) k)
theorem AWp.regionDraw {id:Nat} {Q:Exit->St->Prop} (hmix:P.follows .mixedOrders=true) (hm:m<=σ.heap.length) (h:a0W P m ops ops.toList [] (Q .normal) σ):AWp P m (.region id ops true) Q σ:=by
 obtain ⟨ys,σ',h1,h2,h3⟩:=h;exact AWp.regionD hmix hm h1 h2 h3
theorem a1D.stepCall (hT:TOk P T) {Q:Exit->St->Prop} {f:FuncId} {args:List AV} {o:Oper} {rest:List Oper} {σ1:St} {H Hr H':List Obj} {r:AV} {d:Nat} (h : ∀ A:Ar,A=Ar.std->a7m A T an ops.toList l σ = .call f args o rest σ1)
  (hm:m<=σ.heap.length) (hH:σ1.heap=H++Hr) (hr:Hr=[]\/H'.length=H.length) (hin:a0s H.length H=true) (hargs:a3k H.length args=true) (hd:o.dst=some d) (hlt:d<σ1.n) (hb:(σ1.get d).isBox=false)
  (hfr:args.all AV.free=true) (hc:a0e P f args H r H') (k:a1D P m ops rest Q { σ1 with env:=a2A σ1.env d r,heap:=H'++Hr }):a1D P m ops l Q σ :=
 a1D.run (an:=an) hT l σ hm (by
  rw [h _ rfl];intro hcall hw;refine a1D.call hT hw hcall hH hr hin hargs hd hlt hb hfr hc ?_;intro r n G a w Q' hm' R hQ;exact k r n G a w Q' hm' R (fun e a' w' hp=>by
   obtain ⟨σ',G',R',hE,hm'',hq⟩:=hp;exact hQ e a' w' ⟨σ',G',R',hE,hm'',fun _=>hq⟩))
end
section
variable {P:Program} {T:a0i} {m:Nat} {Q:Exit->St->Prop} {σ σ':St} {ops:Array Oper} {an:Ann} {id:Nat} {c:Code}
theorem AWp.reg1 (an:Ann) (hT:TOk P T) (h : ∀ A:Ar,A=Ar.std->a7m A T an ops.toList ops.toList σ = .done σ') (hm:m<=σ.heap.length) (k:Q .normal σ'):AWp P m (.region id ops false) Q σ :=
 AWp.region (a1D.done hT (an:=an) h hm k)
theorem AWp.reg1D (an:Ann) (hT:TOk P T) (hmix:P.follows .mixedOrders=true) {xs:List Rec} (h : ∀ A:Ar,A=Ar.std->a8B A T an ops.toList ops.toList σ [] = .done σ' xs) (hok:a2y ops.toList (xs.map Rec.foot)=true) (hm:m<=σ.heap.length) (k:Q .normal σ'):AWp P m (.region id ops true) Q σ :=
 AWp.regionDraw hmix hm (a0W.done hT (an:=an) rfl h hok k)
end
theorem RepV.fewer {G:Gh} {w:World} {k:Nat} {ℓ:Loc} {av:AV} {v:Value} (h:RepV G w ℓ av v):av.inb k=true->RepV { G with nh:=k } w ℓ av v:=by
 have tail : ∀ {ℓ:Loc} {k':Nat} {v:Value},b2k G w ℓ k' v->b2k { G with nh:=k } w ℓ k' v:=fun h=>h
 induction h with
 | undef ℓ v=>exact fun _ => .undef ℓ v
 | abool ℓ b=>exact fun _ => .abool ℓ b
 | d ℓ x v h=>exact fun _ => .d ℓ x v h
 | ptr ℓ a off ha=>intro hb;simp [AV.inb] at hb;exact RepV.ptr (G:={ G with nh:=k }) ℓ a off hb
 | nilptr ℓ=>exact fun _ => .nilptr ℓ
 | iptr ℓ cs b off vs hK h1 h=>exact fun _ => .iptr ℓ cs b off vs hK h1 h
 | own ℓ k l v h ht=>exact fun _ => .own ℓ k l v h (tail ht)
 | lim ℓ k l v h ht=>exact fun _ => .lim ℓ k l v h ht
 | tail ℓ k l v h ht=>exact fun _ => .tail ℓ k l v h ht
 | func ℓ f as bs va vb ha hb _ _ hc hc' ih ih' =>
   intro hbl;simp [AV.inb] at hbl;exact .func ℓ f as bs va vb ha hb (fun i hi=>ih i hi (a0U hbl.1 i hi)) (fun i hi=>ih' i hi (a0U hbl.2 i hi)) hc hc'
 | nilfunc ℓ=>exact fun _ => .nilfunc ℓ
 | yield ℓ l hl=>intro hb;simp [AV.inb] at hb;exact RepV.yield (G:={ G with nh:=k }) ℓ l hb
 | map ℓ a ha=>intro hb;simp [AV.inb] at hb;exact RepV.map (G:={ G with nh:=k }) ℓ a hb
 | nilmap ℓ=>exact fun _ => .nilmap ℓ
 | lbox t cs vs e hO hw hs _ hc ih =>
   intro hbl;simp [AV.inb] at hbl;exact RepV.lbox (G:={ G with nh:=k }) t cs vs e hO hw hs (fun j hj=>ih j hj (a0U hbl j hj)) hc
 | place ℓ r off=>exact fun _=>RepV.place (G:={ G with nh:=k }) ℓ r off
 | mref ℓ a k' lo n b off cap ha h1 h2 h3 h4=>intro hb;simp [AV.inb] at hb;exact RepV.mref (G:={ G with nh:=k }) ℓ a k' lo n b off cap hb h1 h2 h3 h4
 | mcap ℓ a k' lo n c b off cap ha h1 h2 h3 h4 h5=>intro hb;simp [AV.inb] at hb;exact RepV.mcap (G:={ G with nh:=k }) ℓ a k' lo n c b off cap hb h1 h2 h3 h4 h5
 | gref ℓ a k' p ha hc hq=>intro hb;simp [AV.inb] at hb;exact RepV.gref (G:={ G with nh:=k }) ℓ a k' p hb hc hq
 | fresh ℓ k l v h=>exact fun _ => .fresh ℓ k l v h
 | junk ℓ v h=>exact fun _ => .junk ℓ v h
 | eptr ℓ a k' i j ha hi=>intro hb;simp [AV.inb] at hb;exact RepV.eptr (G:={ G with nh:=k }) ℓ a k' i j hb hi
 | vptr ℓ a k' i j m z ha hi hz hm=>intro hb;simp [AV.inb] at hb;exact RepV.vptr (G:={ G with nh:=k }) ℓ a k' i j m z hb hi hz hm
 | agg ℓ cs vs hs _ hc hf ih =>
   intro hbl;simp [AV.inb] at hbl;exact .agg ℓ cs vs hs (fun i hi=>ih i hi (a0U hbl i hi)) hc hf
 | tuple ℓ cs vs hs _ hc ih =>
   intro hbl;simp [AV.inb] at hbl;exact .tuple ℓ cs vs hs (fun i hi=>ih i hi (a0U hbl i hi)) hc
theorem RelH.fewer {G:Gh} {H:List Obj} {w:World} (R:RelH G H w) {k:Nat} (hk:k<=H.length) (hb:a0s k (H.take k)=true):RelH { G with nh:=k } (H.take k) w:=by
 have hsub:Sub G { G with nh:=k } w w (fun _=>True) k:=⟨KLe.refl _,fun b ℓ f _ hO=>⟨hO,rfl⟩,fun _ _=>rfl,Nat.le_refl _⟩
 refine ⟨⟨R.sane.no⟩,by simp;omega,fun i ob hob => ?_,R.kept,R.disj⟩;have hi:i<k:=by have:=(zp2.1 hob).1;simp at this;omega
 rw [List.getElem?_take_of_lt hi] at hob;exact (R.objs i ob hob).sub R.sane hi hsub trivial (fun _=>trivial) (a3d hb i ob (by rw [List.getElem?_take_of_lt hi];exact hob))
def St.fit (σ:St) (ts:List Nat) (k:Nat):St:={ σ with env:=a8y σ.env ts,heap:=σ.heap.take k }
def St.fits (σ:St) (ts:List Nat) (k:Nat):Bool:=Nat.ble k σ.heap.length&&a3k k ((a8y σ.env ts).map (·.2))&&a0s k (σ.heap.take k)
theorem Rel.fit {G:Gh} {σ:St} {a:Act} {w:World} (R:Rel G σ a w) {ts:List Nat} {k:Nat} (h:σ.fits ts k=true):Rel { G with nh:=k } (σ.fit ts k) a w:=by
 simp only [St.fits,zp4,Nat.ble_eq] at h;obtain ⟨⟨h1,h2⟩,h3⟩:=h;have R':=R.keep ts;exact ⟨R.h.fewer h1 h3,R'.size,fun t=>(R'.slots t).fewer (a5I h2 t),R'.places,R'.df⟩
theorem Ext.nh {m:Nat} {G G':Gh} {w w':World} (h:Ext m G w G' w') (k:Nat):Ext m G w { G' with nh:=k } w':=⟨h.K,h.new,h.others,h.size,h.β,h.io⟩
section
variable {P:Program} {T:a0i} {m:Nat} {Q:Exit->St->Prop} {σ:St} {c:Code}
theorem AWp.fit (ts:List Nat) (k:Nat) (hm:m<=k) (hf:σ.fits ts k=true) (h:AWp P m c Q (σ.fit ts k)):AWp P m c Q σ:=by
 intro r n G a w hm' R;refine wpIn_mono (h r n _ a w hm (R.fit hf)) ?_;rintro e a' w' ⟨σ',G',R',hE,hm'',hQ⟩;exact ⟨σ',G',R',⟨hE.K,hE.new,hE.others,hE.size,hE.β,hE.io⟩,hm'',hQ⟩
theorem AWp.cut {x y:Code} (R:St->Prop) (h:AWp P m x (AExit.then R Q) σ) (k : ∀ σ',R σ'->AWp P m y Q σ'):AWp P m (.seq x y) Q σ:=by
 refine AWp.seq (AWp.mono h ?_);intro e σ' hq;cases e with
 | normal=>exact k σ' hq
 | _=>exact hq
end
section
variable {P:Program} {T:a0i} {m i:Nat} {ops:Array Oper} {σ:St} {o:Oper} {an:Ann}
theorem a6F {H:List Obj} : ∀ {τ:List Obj},(∀ a,a<H.length->τ[a]?=H[a]?) -> ∃ rest,τ=H++rest:=by
 induction H with
 | nil=>intro τ _;exact ⟨τ,rfl⟩
 | cons x H ih =>
   intro τ h;cases τ with
   | nil=>have:=h 0 (by simp);simp at this
   | cons y τ =>
     have h0:=h 0 (by simp);simp at h0;subst h0;obtain ⟨rest,rfl⟩:=ih (τ:=τ) (fun a ha=>by have:=h (a+1) (by simp;omega);simpa using this);exact ⟨rest,rfl⟩
theorem a2o.callL (hT:TOk P T) (ho:ops[i]?=some o) {f:FuncId} {args:List AV} {r:AV} {H rest H':List Obj} {d:Nat} (hw:a2l ops.toList σ o=some true) (hcall:a2x T σ o=some (f,args)) (hH:σ.heap=H++rest)
  (hl:H'.length=H.length) (hin:a0s H.length H=true)
  (hargs:a3k H.length args=true) (hd:o.dst=some d) (hlt:d<σ.n) (hb:(σ.get d).isBox=false) (hfr:args.all AV.free=true) (hc:a0e P f args H r H') :
  a2o P m ops i σ { sets:=[(d,r)],heap:=none,rd:=a0n ops.toList o,hr:=false,ho:=List.range H.length,low:=H' }:=by
 intro τ hrd _ hho hn hm;obtain ⟨rest',hheap⟩ : ∃ rest',τ.heap=H++rest':=a6F (fun a ha=>by
  rw [hho a (List.mem_range.2 ha),hH,zp7 ha])
 have happ:a3n H' τ.heap=H'++rest':=by unfold a3n;rw [hheap,hl,List.drop_left]
 obtain ⟨hcb,hrl,hri,hin',hHH,hcc⟩:=hc;refine ⟨by rw [a1Z];exact Nat.le_trans hm (b3B _ _),fun rr n G a w Q' K R hK => ?_⟩;have hdm:d∈a0n ops.toList o:=by simp [a0n,hd]
 have hbτ:(τ.get d).isBox=false:=by rw [hrd d hdm];exact hb
 unfold wpOpIn;simp only [ho];rw [if_pos (a2m (b:=true) (by rw [a3F (σ:=σ) hrd];exact hw) R)];obtain ⟨hnd,vs,hrun,hvs,hrep⟩:=a5L hT (by rw [a5P (σ:=σ) hrd];exact hcall) hcb R;have RH:RelH G (H++rest') w:=by rw [<-hheap];exact R.h
 have hRh:=RH.handed hin;have hfr' : ∀ c∈args,c.free=true:=by simpa using hfr
 have hsub:Sub G (G.handed H.length) w w (fun ℓ=>ℓ = .no) H.length :=
  ⟨KLe.refl _,fun b ℓ f hl hO=>absurd (hl▸rfl) (R.h.sane.no b ℓ f hO),fun _ _=>rfl,Nat.le_refl _⟩
 refine ⟨fun _ _=>trivial,?_⟩;rw [Oper.semAt_eq _ _ _ hnd,hrun];refine ⟨fun hh=>by simp [Wd] at hh,?_⟩;refine CallsIn.mono (a4D (hcc (n-1) (G.handed H.length) w vs hvs (fun i hi => ?_) hRh (fun b ℓ f hO => ?_))) ?_
 ·exact (hrep i hi).sub R.h.sane hsub rfl (a0U hargs i hi) (AV.free_isLocal (hfr' _ (zp6 hi)))
 ·have:=(a2n hO).2;cases ℓ <;> simp [a1h] at this
  ·rename_i i;exact ⟨i,rfl⟩
  rename_i i j;exact ⟨i,rfl⟩
 rintro e w' ⟨v,G3,rfl,hv,R3,hE⟩;obtain ⟨R',hext⟩:=R.back (H:=H) (rest:=rest') hheap (.inr hl) hHH R3 hE hin' hv hrl hri (by rw [hn];exact hlt) hbτ;show K (a.put o.dst v) w';rw [hd];refine hK _ _ w' ?_ (hext m (by rw [<-R.h.nh];exact hm));simpa [Rec.app,St.upd,a0r,happ] using R'
variable {K:St->Prop} {l:List Oper} {xs:List Rec}
theorem a0W.stepCallL (hT:TOk P T) {f:FuncId} {args:List AV} {o:Oper} {rest:List Oper} {σ1:St} {xs1:List Rec} {r:AV} {H Hr H':List Obj} {d:Nat} (hl:l=ops.toList.drop xs.length) (h : ∀ A:Ar,A=Ar.std->a8B A T an ops.toList l σ xs = .call f args o rest σ1 xs1)
  (hH:σ1.heap=H++Hr) (hr:H'.length=H.length) (hin:a0s H.length H=true) (hargs:a3k H.length args=true) (hd:o.dst=some d) (hlt:d<σ1.n) (hb:(σ1.get d).isBox=false) (hfr:args.all AV.free=true) (hc:a0e P f args H r H')
  (k:a0W P m ops rest (xs1++[{ sets:=[(d,r)],heap:=none,rd:=a0n ops.toList o,hr:=false,ho:=List.range H.length,low:=H' }]) K (σ1.upd [(d,r)] (some (H'++Hr)))):a0W P m ops l xs K σ :=
 a0W.run (an:=an) hT l xs σ hl (by
  rw [h _ rfl];exact fun hcall hw ho=>a0W.cons (a2o.callL hT ho hw hcall hH hr hin hargs hd hlt hb hfr hc) (by
   have:Rec.app σ1 { sets:=[(d,r)],heap:=none,rd:=a0n ops.toList o,hr:=false,ho:=List.range H.length,low:=H' }=σ1.upd [(d,r)] (some (H'++Hr)):=by
    simp only [Rec.app,St.upd,Option.getD_none,Option.getD_some,a3n,hH,hr,List.drop_left]
   rw [this];exact k))
end
set_option linter.unusedVariables false
def D.scalar:D->Bool
 | .int .. | .bool _ | .str _ | .iface _=>true
 | _=>false
theorem RepD.scalar {K K':Addr->Option Value} {x:D} {v:Value} (hs:x.scalar=true) (h:RepD K x v):RepD K' x v:=by
 cases h <;> first | (simp [D.scalar] at hs;done) | constructor
def scalars (l:List D):Bool:=l.all fun x=>x.cells.all D.scalar
theorem a4X {l:List D} (h:scalars l=true) : ∀ x∈D.flat l,x.scalar=true:=by
 intro x hx;unfold D.flat at hx;obtain ⟨y,hy,hxy⟩:=List.mem_flatMap.1 hx;have:=List.all_eq_true.1 h y hy;exact List.all_eq_true.1 this x hxy
theorem a0e.thaw {P:Program} {f:FuncId} {args:List AV} {k:Nat} {l:List D} (hc:a0e P f args [] (.own k l) []) (hargs:a3k 0 args=true) (hfree:args.all AV.free=true) (hl:l≠[]) (hs:scalars l=true)
  {H:List Obj} (hin:a0s (H.length+1) (H++[.arr k l])=true) {n:Int} (hn:(l.length:Int)=n):a0e P f args H (.mref H.length k 0 n) (H++[.arr k l]):=by
 obtain ⟨h1,_,_,_,_,h⟩:=hc;refine ⟨h1,rfl,by simp [AV.inb],by simpa using hin,by simp,?_⟩;intro N G w vs hvs hrep R hO;have R0:=R.handed (H:=[]) (rest:=H) rfl;have hsub:Sub G (G.handed 0) w w (fun ℓ=>ℓ = .no) 0 :=
  ⟨KLe.refl _,fun b ℓ f hl hO=>absurd (hl▸rfl) (R.sane.no b ℓ f hO),fun _ _=>rfl,Nat.le_refl _⟩
 have hfree' : ∀ c∈args,c.free=true:=by simpa using hfree
 have hnone : ∀ b,(G.handed 0).O b=none:=fun b=>a3c (by intro ℓ f _;cases ℓ <;> simp [a1h]);refine CallsIn.mono (h N (G.handed 0) w vs hvs (fun i hi=>(hrep i hi).sub R.sane hsub rfl (a0U hargs i hi) (AV.free_isLocal (hfree' _ (zp6 hi)))) R0 (fun b ℓ f hb=>by rw [hnone] at hb;cases hb)) ?_;rintro e w' ⟨v,G3,rfl,hv,R3,hE⟩;cases hv with | own _ _ _ _ hr ht =>
 rcases hr.slice with ⟨rfl,_⟩ | ⟨b,off,cap,hvv⟩
 ·exact absurd rfl hl
 have hlen:0<l.length:=List.length_pos_iff.2 hl;have hcap:l.length<=cap:=by
  rw [hvv] at hr;generalize hv':Value.slice (some ⟨b,off,none⟩) l.length cap=v at hr;cases hr with
  | nil=>simp at hv'
  | none0=>simp
  | list k l b' off' cap' vs hu hc=>simp at hv';omega
 obtain ⟨fr,c,e0,t1,t2,t3,t4,t5⟩:=ht _ _ _ hvv (by omega);dsimp only at t1 t2 t3 t4 t5;subst t5

 have hnew:w.heap.size<=b:=by
  rcases Nat.lt_or_ge b w.heap.size with hb | hb
  ·have:=(hE.others b hb (hnone b)).2;rw [this] at t1;cases t1
  exact hb
 have hblt:b<w'.heap.size:=(Array.getElem?_eq_some_iff.1 t3).1;have hold : ∀ b',b'<w.heap.size->w'.heap[b']?=w.heap[b']?:=fun b' hb=>(hE.others b' hb (hnone b')).1;let G':Gh:={ K:=G.K,O:=fun x=>if x=b then some (.o H.length,0) else G.O x,β:=fun r=>if r = .o H.length then b else G.β r,nh:=H.length+1 }
 have hnh:H.length=G.nh:=R.nh;have hβold : ∀ i,i<H.length->G'.β (.o i)=G.β (.o i):=by
  intro i hi;simp only [G',Root.o.injEq];rw [if_neg (by omega)]
 have hOold : ∀ b' x f',G.O b'=some (x,f')->G'.O b'=some (x,f'):=by
  intro b' x f' h;have:=(R.disj b' x f' h).1;simp only [G'];rw [if_neg (by omega)];exact h
 have hpr:Pres G G' w w' (fun _=>True) :=
  ⟨KLe.refl _,fun b' x f' _ h=>⟨hOold b' x f' h,hold b' (R.disj b' x f' h).1⟩,fun i hi=>hβold i (by omega),by simp only [G'];omega⟩
 obtain ⟨hu,hK,hKK,h1c,hh⟩:a0k k l /\ ∃ vs:Nat->Value,(∀ j,j<(D.flat l).length->G3.K ⟨b,0+j,none⟩=some (vs j))/\(∀ j,j<(D.flat l).length->(vs j).oneCell'=true) /\ ∀ (j:Nat) (hj:j<(D.flat l).length),RepD G3.K (D.flat l)[j] (vs j):=by
  rw [hvv] at hr;generalize hv':Value.slice (some ⟨b,0,none⟩) l.length cap=v at hr;cases hr with
  | nil=>simp at hv'
  | none0=>exact absurd rfl hl
  | list k l b' off' cap' vs hu hc hK h1 hh =>
    simp at hv';obtain ⟨⟨rfl,rfl⟩,_⟩:=hv';exact ⟨hu,vs,hK,h1,hh⟩
 have hfl:=a0b hu;have hsz:(D.flat l).length<=c.size:=by
  have:l.length*k<=cap*k:=Nat.mul_le_mul_right k hcap;omega
 have hcell : ∀ j,j<(D.flat l).length->c.getD j Go.undef=hK j:=by
  intro j hj;have:=R3.kept _ _ (hKK j hj);rw [Nat.zero_add] at this;have h2:=a0V t3 (show j<c.size by omega);rw [this] at h2;exact (Option.some.inj h2).symm
 refine ⟨v,G',rfl,?_,⟨⟨fun b' ℓ f' h => ?_⟩,by simp [G'],fun i ob hob => ?_,fun x v h => ?_,fun b' ℓ f' h => ?_⟩,⟨KLe.refl _,fun x v h => .inl h,fun b' hb hO'=>⟨hold b' hb,?_⟩,hE.size,fun i hi=>hβold i hi,hE.io⟩⟩
 ·rw [hvv,<-hn];have:=RepV.mref (G:=G') (w:=w') .ret H.length k 0 (l.length:Int) b 0 cap (by simp [G']) (Int.le_refl _) (by omega) (by simpa using hcap) (fun _=>⟨by simp [G'],by simp⟩);simpa using this
 ·simp only [G'] at h;split at h
  ·simp at h;rw [<-h.1];simp [Loc.root]
  exact R.sane.no b' ℓ f' h
 ·rcases Nat.lt_or_ge i H.length with hi | hi
  ·rw [zp7 hi] at hob;exact (R.objs i ob hob).pres R.sane (by omega) hpr trivial (fun _=>trivial)
  have hi':i=H.length:=by
   have:=(zp2.1 hob).1;simp at this;omega
  subst hi';simp at hob;subst hob;refine ⟨c,e0,by simp [G'],by simpa [G'] using t3,hu,hsz,fun j hj => ?_,fun j hj => ?_⟩
  ·rw [hcell j hj];exact h1c j hj
  rw [hcell j hj];exact (hh j hj).scalar (a4X hs _ (zp6 hj))
 ·have hx:=R.kept x v h;have hb:=World.block_lt_of_cell? w _ hx;unfold World.cell? at *
  rwa [hold _ hb]
 ·simp only [G'] at h ⊢;split at h
  ·rename_i hbe;subst hbe;refine ⟨hblt,fun j _ => ?_⟩;cases hK:G.K ⟨b',j,none⟩ with
   | none=>rfl
   | some v => 
     have:=World.block_lt_of_cell? w _ (R.kept _ _ hK);simp at this;omega
  have:=R.disj b' ℓ f' h;exact ⟨by have:=hE.size;omega,this.2⟩
 simp only [G'];rw [if_neg (by omega)];exact hO'
theorem Rel.freeze {G:Gh} {σ:St} {a:Act} {w:World} (R:Rel G σ a w) {s i k:Nat} {lo n:Int} {l:List D} (hs:σ.get s = .mref i k lo n) (hi:σ.heap[i]?=some (.arr k l)) (hfit:lo+n<=l.length) :
  ∃ G',Rel G' { σ with env:=a2A σ.env s (.d (.list k (Ar.std.sub l lo (lo+n)))),heap:=σ.heap.set i .dead } a w /\ ∀ m,Ext m G w G' w:=by
 have hrep:=R.slots s;rw [hs] at hrep;generalize hv:a.tmps.getD s Go.undef=v at hrep;cases hrep with | mref _ _ _ _ _ b off cap hnh hlo hn hcap hbo =>
 obtain ⟨vs,e,hO,hw,hu,hsz,h1,hh⟩:=R.h.objs i _ hi;have hil:i<σ.heap.length:=(zp2.1 hi).1;have hfl:=a0b hu;let B:=G.β (.o i);let G':Gh:={ G with K:=fun x=>if x.block=B/\x.spot=none/\x.off<(D.flat l).length then some (vs.getD x.off Go.undef) else G.K x,O:=fun x=>if x=B then none else G.O x }
 have hdisj:=R.h.disj _ _ _ hO;have hKle:KLe G.K G'.K:=by
  intro x v h;simp only [G'];rw [if_neg];exact h;rintro ⟨hb,hsp,_⟩;obtain ⟨xb,xo,xs⟩:=x;simp at hb hsp;subst hb hsp;rw [hdisj.2 xo (Nat.zero_le _)] at h;cases h
 have hOold : ∀ b' x f',x ≠ .o i->G.O b'=some (x,f')->G'.O b'=some (x,f'):=by
  intro b' x f' hx h;have:b'≠B:=by rintro rfl;rw [show G.O B=_ from hO] at h;simp at h;exact hx h.1.symm
  simp only [G'];rw [if_neg this];exact h
 have hpr:Pres G G' w w (fun x=>x ≠ .o i) :=
  ⟨hKle,fun b' x f' hx h=>⟨hOold b' x f' hx h,rfl⟩,fun _ _=>rfl,Nat.le_refl _⟩
 have hkept : ∀ x v,G'.K x=some v->w.cell? x=some v:=by
  intro x v h;simp only [G'] at h;split at h
  ·rename_i hc;obtain ⟨xb,xo,xs⟩:=x;obtain ⟨h1',h2',h3'⟩:=hc;simp at h1' h2' h3' h;subst h1' h2';rw [a0V hw (by omega)];simpa using h
  exact R.h.kept x v h
 obtain ⟨LO,rfl⟩:=zp9 hlo;obtain ⟨N,rfl⟩:=zp9 hn;have hsubl:Ar.std.sub l LO (LO+N)=(l.drop LO).take N:=by
  simp only [Ar.std];congr 1
  all_goals omega

 have hlist:RepD G'.K (.list k ((l.drop LO).take N)) (.slice (some ⟨b,off,none⟩) N cap):=by
  by_cases hN:N=0
  ·subst hN;simp only [List.take_zero];exact RepD.empty _ _ _ _ _
  obtain ⟨rfl,rfl⟩:=hbo (by omega);simp only [Int.toNat_natCast];have hus:=hu.sub LO N;have hln:((l.drop LO).take N).length=N:=by simp;omega
  have hfe:D.flat ((l.drop LO).take N)=((D.flat l).drop (LO*k)).take (N*k):=by
   rw [a1g (fun x hx=>hu x (List.mem_of_mem_drop hx)),a1Q hu]
  have hflN:=a0b hus;have hmul:LO*k+N*k<=l.length*k:=by rw [<-Nat.add_mul];exact Nat.mul_le_mul_right _ (by omega)
  have hgetj : ∀ (j:Nat) (hj:j<(D.flat ((l.drop LO).take N)).length),(D.flat ((l.drop LO).take N))[j]=(D.flat l)[LO*k+j]'(by rw [hflN,hln] at hj;omega):=by
   intro j hj;simp only [hfe,List.getElem_take,List.getElem_drop]
  have:=RepD.list (K:=G'.K) k ((l.drop LO).take N) (G.β (.o i)) (LO*k) cap (fun j=>vs.getD (LO*k+j) Go.undef) hus (by rw [hln];simpa using hcap)
   (fun j hj=>by
    rw [hflN,hln] at hj;have hjj:LO*k+j<(D.flat l).length:=by omega
    simp [G',B,hjj])
   (fun j hj=>by rw [hflN,hln] at hj;exact h1 _ (by omega))
   (fun j hj=>by
    rw [hgetj j hj];rw [hflN,hln] at hj;exact (hh _ (by omega)).mono hKle)
  rwa [hln] at this
 refine ⟨G',⟨⟨⟨fun b' x f' h => ?_⟩,by simpa [G'] using R.h.nh,fun i' ob hob => ?_,hkept,fun b' x f' h => ?_⟩,R.size,fun t => ?_,fun t r off' ht => ?_,?_⟩,fun m=>⟨hKle,fun x v h => ?_,fun b' hb h=>⟨rfl,?_⟩,Nat.le_refl _,fun _ _=>rfl,rfl,rfl,fun _ _=>rfl,rfl,Nat.le_refl _⟩⟩
 ·simp only [G'] at h;split at h
  ·cases h
  exact R.h.sane.no b' x f' h
 ·by_cases hii:i=i'
  ·subst hii;simp [List.getElem?_set_self hil] at hob;subst hob;trivial
  simp only at hob;rw [List.getElem?_set_ne hii] at hob;exact (R.h.objs i' ob hob).pres R.h.sane (by rw [<-R.h.nh];exact (zp2.1 hob).1) hpr (by simp;exact fun e=>hii e.symm) (by simp)
 ·simp only [G'] at h ⊢;split at h
  ·cases h
  rename_i hne;refine ⟨(R.h.disj b' x f' h).1,fun j hj => ?_⟩;rw [if_neg (by intro hc;exact hne hc.1)];exact (R.h.disj b' x f' h).2 j hj
 ·simp only [St.get,a0d];split
  ·rename_i e';subst e';rw [hv,hsubl];exact .d _ _ _ (by simpa using hlist)
  exact (R.slots t).pres R.h.sane hpr (by simp) (fun _ _ _=>rfl) (fun t' e' _=>⟨rfl,fun j=>by simp⟩)
 ·simp only [St.get,a0d] at ht ⊢;split at ht
  ·cases ht
  obtain ⟨cs,hcs⟩:=R.places t r off' ht;refine ⟨cs,?_⟩;split
  ·rename_i e';subst e';rw [show σ.get s = .lbox cs from hcs] at hs;cases hs
  exact hcs
 ·refine ⟨R.df.1,fun x hx => ?_⟩;obtain ⟨r0,h1,h2,h3⟩:=R.df.2 x hx;exact ⟨r0,h1,hOold _ _ _ (by simp) h2,h3⟩
 ·simp only [G'] at h;split at h
  ·rename_i hc;exact .inr (.inl ⟨_,by rw [hc.1];exact hO⟩)
  exact .inl h
 simp only [G'];split
 ·rfl
 exact h
theorem Rel.freezeBox {G:Gh} {σ:St} {a:Act} {w:World} (R:Rel G σ a w) {s:Nat} {cs:List D} (hs:σ.get s = .lbox (cs.map .d)) (hp : ∀ t off,σ.get t ≠ .place s off) :
  ∃ G',Rel G' { σ with env:=a2A σ.env s (.iptr cs) } a w /\ ∀ m,Ext m G w G' w:=by
 obtain ⟨vs,e,hO,hw,hsz,hh,hcell,hat⟩:=a3T R hs;rw [List.length_map] at hsz;let B:=G.β (.s s);let G':Gh:={ G with K:=fun x=>if x.block=B/\x.spot=none/\x.off<cs.length then some (vs.getD x.off Go.undef) else G.K x,O:=fun x=>if x=B then none else G.O x }
 have hdisj:=R.h.disj _ _ _ hO;have hKle:KLe G.K G'.K:=by
  intro x v h;simp only [G'];rw [if_neg];exact h;rintro ⟨hb,hsp,_⟩;obtain ⟨xb,xo,xs⟩:=x;simp at hb hsp;subst hb hsp;rw [hdisj.2 xo (Nat.zero_le _)] at h;cases h
 have hOold : ∀ b' x f',x ≠ .s s->G.O b'=some (x,f')->G'.O b'=some (x,f'):=by
  intro b' x f' hx h;have:b'≠B:=by rintro rfl;rw [show G.O B=_ from hO] at h;simp at h;exact hx h.1.symm
  simp only [G'];rw [if_neg this];exact h
 have hpr:Pres G G' w w (fun x=>x ≠ .s s) :=
  ⟨hKle,fun b' x f' hx h=>⟨hOold b' x f' hx h,rfl⟩,fun _ _=>rfl,Nat.le_refl _⟩
 have hkept : ∀ x v,G'.K x=some v->w.cell? x=some v:=by
  intro x v h;simp only [G'] at h;split at h
  ·rename_i hc;obtain ⟨xb,xo,xs⟩:=x;obtain ⟨h1',h2',h3'⟩:=hc;simp at h1' h2' h3' h;subst h1' h2';rw [a0V hw (by omega)];simpa using h
  exact R.h.kept x v h
 refine ⟨G',⟨⟨⟨fun b' x f' h => ?_⟩,by simpa [G'] using R.h.nh,fun i' ob hob => ?_,hkept,fun b' x f' h => ?_⟩,R.size,fun t => ?_,fun t r off' ht => ?_,?_⟩,fun m=>⟨hKle,fun x v h => ?_,fun b' hb h=>⟨rfl,?_⟩,Nat.le_refl _,fun _ _=>rfl,rfl,rfl,fun _ _=>rfl,rfl,Nat.le_refl _⟩⟩
 ·simp only [G'] at h;split at h
  ·cases h
  exact R.h.sane.no b' x f' h
 ·exact (R.h.objs i' ob hob).pres R.h.sane (by rw [<-R.h.nh];exact (zp2.1 hob).1) hpr (by simp) (by simp)
 ·simp only [G'] at h ⊢;split at h
  ·cases h
  rename_i hne;refine ⟨(R.h.disj b' x f' h).1,fun j hj => ?_⟩;rw [if_neg (by intro hc;exact hne hc.1)];exact (R.h.disj b' x f' h).2 j hj
 ·simp only [St.get,a0d];split
  ·rename_i e';subst e';rw [hat];refine .iptr _ _ _ _ (fun j=>vs.getD j Go.undef) (fun j hj => ?_) (fun j hj => ?_) (fun j hj => ?_)
   ·simp [G',B,hj]
   ·exact (hh j (by simpa using hj)).oneCell (hcell _ (zp6 _))
   have:=hh j (by simpa using hj);rw [List.getElem_map] at this;cases this with | d _ _ _ h=>exact h.mono hKle
  rename_i hne;exact (R.slots t).pres R.h.sane hpr (by simp;exact fun e=>hne e.symm) (fun _ _ _=>rfl) (fun t' e' _=>⟨rfl,fun j=>by simp⟩)
 ·simp only [St.get,a0d] at ht ⊢;split at ht
  ·cases ht
  obtain ⟨cs,hcs⟩:=R.places t r off' ht;refine ⟨cs,?_⟩;split
  ·rename_i e';subst e';exact absurd ht (hp t off')
  exact hcs
 ·refine ⟨R.df.1,fun x hx => ?_⟩;obtain ⟨r0,h1,h2,h3⟩:=R.df.2 x hx;exact ⟨r0,h1,hOold _ _ _ (by simp) h2,h3⟩
 ·simp only [G'] at h;split at h
  ·rename_i hc;exact .inr (.inl ⟨_,by rw [hc.1];exact hO⟩)
  exact .inl h
 simp only [G'];split
 ·rfl
 exact h
def AV.placeOf (s:Nat):AV->Bool
 | .place r _=>r == s
 | _=>false
theorem noPlace {s:Nat} : ∀ {env:List (Nat×AV)},env.all (fun p => !p.2.placeOf s)=true -> ∀ t off,a1V env t ≠ .place s off
 | [],_,t,off=>by simp [a1V]
 | (u,v)::r,h,t,off=>by
   simp only [List.all_cons,zp4] at h;simp only [a1V];split
   ·rintro rfl;simp [AV.placeOf] at h
   exact noPlace h.2 t off
section
variable {P:Program} {m:Nat} {Q:Exit->St->Prop} {σ:St} {c:Code}
theorem AWp.freeze {s i k:Nat} {lo n:Int} {l l':List D} (hs:σ.get s = .mref i k lo n) (hi:σ.heap[i]?=some (.arr k l)) (hfit:lo+n<=l.length) (hl:Ar.std.sub l lo (lo+n)=l')
  (h:AWp P m c Q { σ with env:=a2A σ.env s (.d (.list k l')),heap:=σ.heap.set i .dead }):AWp P m c Q σ:=by
 intro r n' G a w hm R;obtain ⟨G',R',hE⟩:=R.freeze hs hi hfit;rw [hl] at R';refine wpIn_mono (h r n' G' a w (by have h1:=R'.h.nh;have h2:=R.h.nh;simp at h1;omega) R') ?_;rintro e a' w' ⟨σ',G2,R2,hE2,hm2,hQ⟩;exact ⟨σ',G2,R2,(hE m).trans hE2,hm2,hQ⟩
theorem AWp.freezeBox (s:Nat) (cs:List D) (hs:σ.get s = .lbox (cs.map .d)) (hp:σ.env.all (fun p => !p.2.placeOf s)=true)
  (h:AWp P m c Q { σ with env:=a2A σ.env s (.iptr cs) }):AWp P m c Q σ:=by
 intro r n' G a w hm R;obtain ⟨G',R',hE⟩:=R.freezeBox hs (noPlace hp);refine wpIn_mono (h r n' G' a w (by have h1:=R'.h.nh;have h2:=R.h.nh;simp at h1;omega) R') ?_;rintro e a' w' ⟨σ',G2,R2,hE2,hm2,hQ⟩;exact ⟨σ',G2,R2,(hE m).trans hE2,hm2,hQ⟩
end
def a7p (P:Program) (l:Nat) (args:List AV) (H:List Obj) (r:AV) (H':List Obj):Prop :=
 r.isLocal=false/\r.inb H'.length=true/\a0s H'.length H'=true/\H.length<=H'.length /\ ∀ (n:Nat) (G:Gh) (w:World) (vs:Array Value),vs.size=args.length->(∀ (i:Nat) (hi:i<args.length),RepV G w .no args[i] (vs.getD i Go.undef))->RelH G H w ->
  (∀ b ℓ f,G.O b=some (ℓ,f) -> ∃ i,ℓ.root = .o i) ->
  ∃ f tmps assign body,(Instr.yield (G.β (.o l)) vs).run P w = .ok (.round (G.β (.o l)) f tmps assign body) w /\
    RoundIn (Wd none) n P (G.β (.o l)) f tmps assign body w (fun e w' => ∃ v G',e = .returned v/\RepV G' w' .ret r v/\RelH G' H' w'/\Ext H.length G w G' w')
section
variable {P:Program} {T:a0i} {m:Nat} {Q:Exit->St->Prop} {σ:St} {ops:Array Oper} {o:Oper} {l:List Oper} {an:Ann}
theorem b5K {y:Nat} {args:List AV} (h:callY T σ o=some (y,args)) {G:Gh} {a:Act} {w:World} (R:Rel G σ a w) :
  (∀ c,o.op ≠ .defer c) /\ ∃ vs:Array Value,(execOp a.eval o).run P w=(Instr.yield (G.β (.o y)) vs).run P w/\vs.size=args.length /\ ∀ (i:Nat) (hi:i<args.length),RepV G w .no args[i] (vs.getD i Go.undef):=by
 unfold callY at h;split at h
 ·rename_i t xs ts hop;refine ⟨by simp [hop],?_⟩;split at h
  ·rename_i l' vs hg hvs;split at h
   ·rename_i hsz;simp at h;obtain ⟨rfl,rfl⟩:=h;obtain ⟨e1,e2⟩:=mapM_some hvs;have hx:a.eval (.tmp t) = .func (.yield (G.β (.o l'))) #[] #[]:=by
     have hrep:=R.slots t;rw [hg] at hrep;show a.tmps.getD t Go.undef=_;generalize a.tmps.getD t Go.undef=v at hrep;cases hrep;rfl
    refine ⟨xs.map a.eval,?_,by simp [e1];omega,fun i hi => ?_⟩
    ·simp only [execOp,hop,Sem.run_bind,resolve,hx,Deferred.ofValue,Sem.run_pure,Result.andThen_ok,invoke];simp
    simp at hi;have hz:i<(xs.toList.zip ts.toList).length:=by omega
    have:=(a0Y (a5l σ) R (e2 i hz hi) .no).1.copy .no;have hxs:i<xs.size:=by simp at hz;omega
    simpa [zp5,hxs] using this
   cases h
  cases h
 cases h
theorem b2c {r:Option Nat} {n:Nat} {l:Nat} {f:FuncId} {tmps:Array Value} {x y:Code} {w:World} {R:Ending->World->Prop} (h:RoundIn (Wd none) n P l f tmps x y w R):RoundIn (Wd r) n P l f tmps x y w R:=h
theorem a1D.callY {y:Nat} {args:List AV} {H rest H':List Obj} {r:AV} {d:Nat} (hw:a2l ops.toList σ o=some true) (hcall:Am.callY T σ o=some (y,args)) (hH:σ.heap=H++rest)
  (hr:rest=[]\/H'.length=H.length) (hin:a0s H.length H=true) (hargs:a3k H.length args=true) (hd:o.dst=some d) (hlt:d<σ.n) (hb:(σ.get d).isBox=false)
  (hfr:args.all AV.free=true) (hc:a7p P y args H r H') (h:a1D P m ops l Q { σ with env:=a2A σ.env d r,heap:=H'++rest }):a1D P m ops (o::l) Q σ:=by
 intro rr n G a w Q' hm' R hQ;unfold wpListIn;rw [if_pos (a2m hw R)];obtain ⟨hrl,hri,hin',hHH,hcc⟩:=hc;obtain ⟨hnd,vs,hrun,hvs,hrep⟩:=b5K (P:=P) hcall R;have RH:RelH G (H++rest) w:=by rw [<-hH];exact R.h
 have hRh:=RH.handed hin;have hfr' : ∀ c∈args,c.free=true:=by simpa using hfr
 have hsub:Sub G (G.handed H.length) w w (fun ℓ=>ℓ = .no) H.length :=
  ⟨KLe.refl _,fun b ℓ f hl hO=>absurd (hl▸rfl) (R.h.sane.no b ℓ f hO),fun _ _=>rfl,Nat.le_refl _⟩
 refine ⟨fun _ _=>trivial,?_⟩;rw [Oper.semAt_eq _ _ _ hnd,hrun];obtain ⟨f,tmps,asg,body,hy,hround⟩:=hcc (n-1) (G.handed H.length) w vs hvs (fun i hi=>(hrep i hi).sub R.h.sane hsub rfl (a0U hargs i hi) (AV.free_isLocal (hfr' _ (zp6 hi)))) hRh (fun b ℓ f hO=>by
  have:=(a2n hO).2;cases ℓ <;> simp [a1h] at this
  ·rename_i i;exact ⟨i,rfl⟩
  rename_i i j;exact ⟨i,rfl⟩)
 rw [show (G.handed H.length).β=G.β from rfl] at hy hround;rw [hy];refine ⟨fun hh=>by simp [Wd] at hh,?_⟩;refine RoundIn.mono (b2c hround) ?_;rintro e w' ⟨v,G3,rfl,hv,R3,hE⟩;obtain ⟨R',hext⟩:=R.back hH hr hHH R3 hE hin' hv hrl hri hlt hb;show wpListIn _ _ _ _ _ _ (a.put o.dst v) w';rw [hd];refine h rr n _ _ w' Q' ?_ R' (fun e a' w'' hp=>hQ e a' w'' (hp.ext (hext m hm')));have hnh:G.nh=H.length+rest.length:=by rw [<-R.h.nh,hH];simp
 simp [Gh.back];omega
theorem a1D.stepY (hT:TOk P T) {y:Nat} {args:List AV} {o:Oper} {rest:List Oper} {σ1:St} {H Hr H':List Obj} {r:AV} {d:Nat} (h : ∀ A:Ar,A=Ar.std->a7m A T an ops.toList l σ = .yield y args o rest σ1)
  (hm:m<=σ.heap.length) (hH:σ1.heap=H++Hr) (hr:Hr=[]\/H'.length=H.length) (hin:a0s H.length H=true) (hargs:a3k H.length args=true) (hd:o.dst=some d) (hlt:d<σ1.n) (hb:(σ1.get d).isBox=false)
  (hfr:args.all AV.free=true) (hc:a7p P y args H r H') (k:a1D P m ops rest Q { σ1 with env:=a2A σ1.env d r,heap:=H'++Hr }):a1D P m ops l Q σ :=
 a1D.run (an:=an) hT l σ hm (by
  rw [h _ rfl];intro hcall hw;refine a1D.callY hw hcall hH hr hin hargs hd hlt hb hfr hc ?_;intro r n G a w Q' hm' R hQ;exact k r n G a w Q' hm' R (fun e a' w' hp=>by
   obtain ⟨σ',G',R',hE,hm'',hq⟩:=hp;exact hQ e a' w' ⟨σ',G',R',hE,hm'',fun _=>hq⟩))
end
section
variable {P:Program} {T:a0i} {m i:Nat} {ops:Array Oper} {σ:St} {o:Oper} {an:Ann}
variable {K:St->Prop} {l:List Oper} {xs:List Rec}
end
theorem a9u {G:Gh} {w:World} {b:Nat} {ℓ:Loc} (hO:G.O b=some (ℓ,0)) (ob:Go.Obj):Pres G G w (w.putObj b ob) (fun x=>x≠ℓ) :=
 ⟨KLe.refl _,fun b' x f hx h=>⟨h,World.putObj_heap_other (by rintro rfl;rw [hO] at h;simp at h;exact hx h.1.symm)⟩,fun _ _=>rfl,Nat.le_refl _⟩
theorem Ext.putObj {m:Nat} {G:Gh} {w:World} {b:Nat} {p:Loc×Nat} (hO:G.O b=some p) {r0:Loop} (hb:w.heap[b]?=some (.loop r0)) (r:Loop):Ext m G w G (w.putObj b (.loop r)) where
 K:=KLe.refl _
 new x v h := .inl h
 others b' _ h:=⟨World.putObj_heap_other (by rintro rfl;rw [hO] at h;cases h),h⟩
 size:=by simp
 β _ _:=rfl
 io:=by
  refine ⟨rfl,rfl,fun a _ => ?_,rfl,Nat.le_refl _⟩;unfold World.frozen?;by_cases h:a.block=b
  ·subst h;rw [hb,World.putObj_heap_same (Array.getElem?_eq_some_iff.1 hb).1]
  rw [World.putObj_heap_other h]
theorem a9v {G:Gh} {w:World} {b:Nat} {ℓ:Loc} (hk : ∀ x v,G.K x=some v->w.cell? x=some v) (hd : ∀ j,G.K ⟨b,j,none⟩=none) (hO:G.O b=some (ℓ,0)) (ob:Go.Obj) :
  ∀ x v,G.K x=some v->(w.putObj b ob).cell? x=some v:=by
 intro x v h;have hx:=hk x v h;have hne:x.block≠b:=by
  rintro rfl;have hspot:x.spot=none:=by
   unfold World.cell? at hx;split at hx
   ·split at hx
    ·cases hx
    rename_i hsp;simpa using hsp
   cases hx
  obtain ⟨b,j,s⟩:=x;simp at hspot;subst hspot;rw [hd j] at h;cases h
 unfold World.cell? at *
 rwa [World.putObj_heap_other hne]
theorem Rel.setLoop {G:Gh} {σ:St} {a:Act} {w:World} (R:Rel G σ a w) {i:Nat} {L:ALoop} (hi:σ.heap[i]?=some (.loop L)) :
  ∃ r:Loop,w.heap[G.β (.o i)]?=some (.loop r)/\r.state=L.st/\r.pending=L.pending/\r.params=L.params/\r.assign=L.assign/\r.body=L.body /\
    ∀ st p,Rel G { σ with heap:=σ.heap.set i (.loop { L with st:=st,pending:=p }) } a (w.putObj (G.β (.o i)) (.loop { r with state:=st,pending:=p })) /\
      ∀ m,Ext m G w G (w.putObj (G.β (.o i)) (.loop { r with state:=st,pending:=p })):=by
 obtain ⟨fn,tmps,D,hO,hw,hs,hh,hf⟩:=R.h.objs i _ hi;refine ⟨_,hw,rfl,rfl,rfl,rfl,rfl,fun st p=>⟨?_,fun m=>Ext.putObj hO hw _⟩⟩;have hpr:=a9u (w:=w) hO (.loop { state:=st,pending:=p,fn,tmps,params:=L.params,assign:=L.assign,body:=L.body,defers:=D });have hil:i<σ.heap.length:=(zp2.1 hi).1;refine ⟨⟨R.h.sane,by simpa using R.h.nh,fun i' ob hob => ?_,a9v R.h.kept (fun j=>(R.h.disj _ _ _ hO).2 j (Nat.zero_le _)) hO _,fun b ℓ f h => ?_⟩,R.size,?_,R.places,?_⟩
 ·by_cases hii:i=i'
  ·subst hii;simp only [List.getElem?_set_self hil] at hob;injection hob with hob;subst hob
   refine ⟨fn,tmps,D,hO,World.putObj_heap_same (R.h.disj _ _ _ hO).1,hs,fun t=>(hh t).pres R.h.sane (hpr.no R.h.sane) rfl (fun r off e=>absurd (hf t) (by rw [e];simp [AV.free])) (fun t e=>by cases e),hf⟩
  simp only [List.getElem?_set_ne hii] at hob;exact (R.h.objs i' ob hob).pres R.h.sane (by rw [<-R.h.nh];exact (zp2.1 hob).1) hpr (by simp;exact fun e=>hii e.symm) (by simp)
 ·have:=R.h.disj b ℓ f h;exact ⟨by simpa using this.1,this.2⟩
 ·intro t;exact (R.slots t).pres R.h.sane hpr (by simp) (fun _ _ _=>rfl) (fun t' e' _=>⟨rfl,fun j=>by simp⟩)
 refine ⟨R.df.1,fun x hx => ?_⟩;obtain ⟨r0,h1,h2,h3⟩:=R.df.2 x hx;exact ⟨r0,h1,h2,by rw [World.putObj_heap_other (by rintro rfl;rw [hO] at h2;cases h2)];exact h3⟩
def b3F (y:Nat) (L:ALoop) (b:Bool) (H':List Obj):Exit->St->Prop
 | .normal,σ=>b=true/\σ.heap[y]?=some (.loop { L with st := .busy }) /\ ∃ junk,σ.heap.set y (.loop { L with st := .ready,pending:=none })=H'++junk
 | .ret,σ=>b=false/\σ.heap[y]?=some (.loop { L with st := .busy }) /\ ∃ junk,σ.heap.set y (.loop { L with st := .done,pending:=some .ret })=H'++junk
 | .exit id,σ=>b=false/\σ.heap[y]?=some (.loop { L with st := .busy }) /\ ∃ junk,σ.heap.set y (.loop { L with st := .done,pending:=some (.exit id) })=H'++junk
 | _,_=>False
theorem a5R {G:Gh} {w:World} : ∀ (ps:List Tmp) (avs:List AV) (vs:List Value) (env:List (Nat×AV)) (tmps:Array Value),avs.length=ps.length->vs.length=ps.length->(∀ p∈ps,p<tmps.size) ->
  (∀ (i:Nat) (hi:i<avs.length),RepV G w .no avs[i] (vs.getD i Go.undef)/\avs[i].free=true)->(∀ t,RepV G w .no (a1V env t) (tmps.getD t Go.undef))->(∀ t,(a1V env t).free=true) ->
  ((ps.zip vs).foldl (fun tmps (p:Tmp×Value)=>tmps.setIfInBounds p.1 p.2) tmps).size=tmps.size /\
    (∀ t,RepV G w .no (a1V (a0r env (ps.zip avs)) t) (((ps.zip vs).foldl (fun tmps (p:Tmp×Value)=>tmps.setIfInBounds p.1 p.2) tmps).getD t Go.undef)) /\ ∀ t,(a1V (a0r env (ps.zip avs)) t).free=true
 | [],avs,vs,env,tmps,h1,h2,_,_,h5,h6=>⟨rfl,h5,h6⟩
 | p::ps,[],_,_,_,h1,_,_,_,_,_=>by simp at h1
 | p::ps,_::_,[],_,_,_,h2,_,_,_,_=>by simp at h2
 | p::ps,c::avs,v::vs,env,tmps,h1,h2,h3,h4,h5,h6=>by
   have hp:p<tmps.size:=h3 p (by simp);have h0:=h4 0 (by simp);simp at h0;obtain ⟨k1,k2,k3⟩:=a5R ps avs vs (a2A env p c) (tmps.setIfInBounds p v) (by simpa using h1) (by simpa using h2) (fun q hq=>by simpa using h3 q (by simp [hq])) (fun i hi=>h4 (i+1) (by simpa using hi))
    (fun t=>by
     rw [a0d,a1q _ _ _ _ hp];split
     ·exact h0.1
     ·exact h5 t) (fun t=>by
     rw [a0d];split
     ·exact h0.2
     exact h6 t)
   exact ⟨by simpa using k1,k2,k3⟩
theorem a7p.mk {P:Program} {y:Nat} {L:ALoop} {args:List AV} {H H':List Obj} {b:Bool} (hy:H[y]?=some (.loop L)) (hst:L.st = .ready) (hsz:args.length=L.params.size) (hps:L.params.toList.all (fun p=>decide (p<L.n))=true)
  (hfr:args.all AV.free=true) (hin:a0s H'.length H'=true) (hHH:H.length<=H'.length)
  (h:AWp P H.length L.assign (fun e σ1=>e = .normal/\σ1.heap[y]?=some (.loop L)/\AWp P H.length L.body (b3F y L b H') { σ1 with heap:=σ1.heap.set y (.loop { L with st := .busy }) })
   { env:=a0r L.env (L.params.toList.zip args),heap:=H,n:=L.n }):a7p P y args H (.d (.bool b)) H':=by
 refine ⟨rfl,rfl,hin,hHH,?_⟩;intro n G w vs hvs hrep RH hO;obtain ⟨fn,tmps,D,hOl,hw,hs,hh,hf⟩:=RH.objs y _ hy;have hfr' : ∀ c∈args,c.free=true:=by simpa using hfr
 have hyl:y<H.length:=(zp2.1 hy).1;obtain ⟨k1,k2,k3⟩:=a5R (G:=G) (w:=w) L.params.toList args vs.toList L.env tmps (by simpa using hsz) (by simp;omega) (fun p hp=>by rw [hs];simpa using List.all_eq_true.1 hps p hp)
  (fun i hi=>⟨by simpa [List.getD,zp5] using hrep i hi,hfr' _ (zp6 hi)⟩) hh hf
 have hyield:=run_yield (P:=P) (args:=vs) hw (by simp [hvs,hsz]);refine ⟨fn,_,L.assign,L.body,hyield,?_⟩;have hfold:((L.params.zip vs).foldl (fun tmps (x:Tmp×Value)=>match x with | (t,a)=>tmps.setIfInBounds t a) tmps)=(L.params.toList.zip vs.toList).foldl (fun tmps (p:Tmp×Value)=>tmps.setIfInBounds p.1 p.2) tmps:=by
  rw [<-Array.foldl_toList];simp
 have R:Rel G { env:=a0r L.env (L.params.toList.zip args),heap:=H,n:=L.n } { tmps:=(L.params.toList.zip vs.toList).foldl (fun tmps (p:Tmp×Value)=>tmps.setIfInBounds p.1 p.2) tmps,defers:=[] } w:=by
  refine ⟨RH,by rw [k1,hs],fun t=>(k2 t).anywhere (k3 t) _,fun t r off ht => ?_,⟨by simp,fun d hd=>by simp at hd⟩⟩;have:=k3 t;simp only [St.get] at ht;rw [ht] at this;simp [AV.free] at this
 refine roundIn_of_wpIn (by trivial) ?_;rw [hfold];refine wpIn_mono (h (some (G.β (.o y))) n G _ w (by rw [RH.nh];exact Nat.le_refl _) R) ?_;rintro e a1 w1 ⟨σ1,G1,R1,hE1,hm1,rfl,hy1,hbody⟩;have hβ1:G1.β (.o y)=G.β (.o y):=hE1.β y hyl;obtain ⟨r1,e1,e2,e3,e4,e5,e6,hset⟩:=R1.setLoop hy1;rw [hβ1] at e1 hset;obtain ⟨R2,hE2⟩:=hset .busy L.pending;refine ⟨_,run_beginRound e1 (by rw [e2,hst]),?_⟩;have hL:({ L with st := .busy,pending:=L.pending }:ALoop)={ L with st := .busy }:=rfl
 have hr1:({ r1 with state := .busy }:Loop)={ r1 with state := .busy,pending:=L.pending }:=by rw [<-e3]
 rw [hr1];refine wpIn_mono (hbody (some (G.β (.o y))) n G1 a1 _ hm1 R2) ?_;have hE12:=hE1.trans (hE2 H.length)

 have fin : ∀ (jump:Option Code) (σ3:St) (G3:Gh) (a3:Act) (w3:World),Rel G3 σ3 a3 w3->Ext H.length G1 (w1.putObj (G.β (.o y)) (.loop { r1 with state := .busy,pending:=L.pending })) G3 w3->H.length<=G3.nh ->
   b=jump.isNone->σ3.heap[y]?=some (.loop { L with st := .busy })->(∃ junk,σ3.heap.set y (.loop { L with st:=if jump.isNone then .ready else .done,pending:=jump })=H'++junk) ->
   ∃ v w',(Instr.endRound (G.β (.o y)) jump).run P w3 = .ok v w' /\ ∃ v' G',Ending.returned v = .returned v'/\RepV G' w' .ret (.d (.bool b)) v'/\RelH G' H' w'/\Ext H.length G w G' w':=by
  intro jump σ3 G3 a3 w3 R3 hE3 hm3 hb hy3 ⟨junk,hjunk⟩;have hβ3:G3.β (.o y)=G.β (.o y):=(hE3.β y hyl).trans hβ1;obtain ⟨r3,f1,f2,f3,f4,f5,f6,hset3⟩:=R3.setLoop hy3;rw [hβ3] at f1 hset3;obtain ⟨R4,hE4⟩:=hset3 (if jump.isNone then .ready else .done) jump
  refine ⟨_,_,run_endRound jump f1,_,{ G3 with nh:=H'.length },rfl,?_,?_,?_⟩
  ·rw [hb];exact .d _ _ _ (.bool _)
  ·have hle:H'.length<=(σ3.heap.set y (.loop { L with st:=if jump.isNone then .ready else .done,pending:=jump })).length:=by rw [hjunk];simp
   have htake:(σ3.heap.set y (.loop { L with st:=if jump.isNone then .ready else .done,pending:=jump })).take H'.length=H':=by rw [hjunk];simp
   have:=R4.h.fewer (k:=H'.length) hle (by rw [htake];exact hin);rw [htake] at this;exact this
  exact ((hE12.trans hE3).trans (hE4 H.length)).nh _
 rintro e a3 w3 ⟨σ3,G3,R3,hE3,hm3,hq⟩;cases e with
 | normal =>
   obtain ⟨hb,h1,h2⟩:=hq;obtain ⟨v,w',h3,h4⟩:=fin none σ3 G3 a3 w3 R3 hE3 hm3 hb h1 h2;exact ⟨v,w',h3,h4⟩
 | ret =>
   obtain ⟨hb,h1,h2⟩:=hq;obtain ⟨v,w',h3,h4⟩:=fin (some .ret) σ3 G3 a3 w3 R3 hE3 hm3 hb h1 h2;exact ⟨v,w',h3,h4⟩
 | exit id =>
   obtain ⟨hb,h1,h2⟩:=hq;obtain ⟨v,w',h3,h4⟩:=fin (some (.exit id)) σ3 G3 a3 w3 R3 hE3 hm3 hb h1 h2;exact ⟨v,w',h3,h4⟩
 | goto l=>exact hq.elim
 | panic c=>exact hq.elim
 | outgrown=>exact hq.elim
theorem a4Y {P:Program} {f:FuncId} (hc:callable P f=true) (args:Array Value) (w:World):(callFunc f args).run P w = .ok (.enter f args) w:=by
 unfold callable at hc;unfold callFunc;simp only [Sem.run_bind,run_program,Result.andThen_ok];split at hc
 ·rename_i fn hfn';simp at hc;rw [hfn'];simp [hc.1,Option.isSome_iff_ne_none.1 hc.2]
 cases hc
def St.laid (σ:St) (ts:List Nat) (ps:Array Tmp) (assign body:Code):ALoop :=
 { st := .ready,pending:=none,env:=ts.map (fun t=>(t,(σ.get t).copy)),n:=σ.n,params:=ps,assign:=assign,body:=body }
theorem a5S (σ:St) : ∀ (ts:List Nat) (t:Nat),a1V (ts.map (fun t=>(t,(σ.get t).copy))) t=(σ.get t).copy\/a1V (ts.map (fun t=>(t,(σ.get t).copy))) t = .undef
 | [],t => .inr rfl
 | s::r,t=>by
   simp only [List.map_cons,a1V];split
   ·rename_i h;subst h;exact .inl rfl
   exact a5S σ r t
theorem Rel.enterLoop {G:Gh} {σ:St} {a:Act} {w:World} (R:Rel G σ a w) (ts:List Nat) (ps:Array Tmp) (assign body:Code) (fn:FuncId) :
  ∃ G',Rel G' { σ with heap:=σ.heap++[.loop (σ.laid ts ps assign body)] } { a with defers:=[{ target := .collected w.heap.size,args := #[] }]++a.defers }
    ((w.alloc (.deferred (some []))).alloc (.loop { state := .ready,pending:=none,fn,tmps:=a.tmps,params:=ps,assign,body,defers:=w.heap.size })) /\
    G'.β (.o σ.heap.length)=w.heap.size+1 /\
    (∀ m,m<=G.nh->Ext m G w G' ((w.alloc (.deferred (some []))).alloc (.loop { state := .ready,pending:=none,fn,tmps:=a.tmps,params:=ps,assign,body,defers:=w.heap.size }))):=by
 let rec0:Loop:={ state := .ready,pending:=none,fn,tmps:=a.tmps,params:=ps,assign,body,defers:=w.heap.size };let w1:=(w.alloc (.deferred (some []))).alloc (.loop rec0);let G':Gh:={ ((G.own w.heap.size .df 0).own (w.heap.size+1) (.o G.nh) 0).at (.o G.nh) (w.heap.size+1) with nh:=G.nh+1 }
 have hsz:(w.alloc (.deferred (some []))).heap.size=w.heap.size+1:=by simp
 have hold : ∀ b,b<w.heap.size->w1.heap[b]?=w.heap[b]?:=fun b hb=>by
  rw [show w1=(w.alloc (.deferred (some []))).alloc (.loop rec0) from rfl,a0o (by omega),a0o hb]
 have hL:w1.heap[w.heap.size+1]?=some (.loop rec0):=by
  have:=heap_alloc_new (w:=w.alloc (.deferred (some []))) (o := .loop rec0)
  rwa [hsz] at this
 have hD:w1.heap[w.heap.size]?=some (.deferred (some [])):=by
  rw [show w1=(w.alloc (.deferred (some []))).alloc (.loop rec0) from rfl,a0o (by omega),heap_alloc_new]
 have hOold : ∀ b x f,G.O b=some (x,f)->G'.O b=some (x,f):=by
  intro b x f h;have:=(R.h.disj b x f h).1;simp [G',Gh.own,Gh.at,Nat.ne_of_lt this,show b≠w.heap.size+1 by omega,h]
 have hβold : ∀ i,i<G.nh->G'.β (.o i)=G.β (.o i):=by
  intro i hi;simp [G',Gh.own,Gh.at,Nat.ne_of_lt hi]
 have hpr:Pres G G' w w1 (fun _=>True) :=
  ⟨KLe.refl _,fun b x f _ h=>⟨hOold b x f h,hold b (R.h.disj b x f h).1⟩,hβold,Nat.le_succ _⟩
 have hkn : ∀ b j,w.heap.size<=b->G.K ⟨b,j,none⟩=none:=by
  intro b j hb;cases hK:G.K ⟨b,j,none⟩ with
  | none=>rfl
  | some v=>have:=World.block_lt_of_cell? w _ (R.h.kept _ _ hK);simp at this;omega
 have hslots : ∀ t,RepV G' w1 (.s t) (σ.get t) (a.tmps.getD t Go.undef):=fun t =>
  (R.slots t).pres R.h.sane hpr trivial (fun _ _ _=>by simp [G',Gh.own,Gh.at]) (fun _ _ _=>⟨by simp [G',Gh.own,Gh.at],fun _=>trivial⟩)
 have hnhl:σ.heap.length=G.nh:=R.h.nh;refine ⟨G',⟨⟨⟨fun b x f h => ?_⟩,?_,fun i ob hob => ?_,fun x v h=>a1E (a1E (R.h.kept x v h)),fun b x f h => ?_⟩,R.size,hslots,R.places,?_⟩,?_,?_⟩
 ·simp only [G',Gh.own,Gh.at] at h;split at h
  ·simp at h;rw [<-h.1];simp [Loc.root]
  split at h
  ·simp at h;rw [<-h.1];simp [Loc.root]
  exact R.h.sane.no b x f h
 ·simp [G',hnhl]
 ·rcases Nat.lt_or_ge i σ.heap.length with hi | hi
  ·simp only [zp7 hi] at hob;exact (R.h.objs i ob hob).pres R.h.sane (by omega) hpr trivial (fun _=>trivial)
  have hi':i=G.nh:=by
   have:=(zp2.1 hob).1;simp at this;omega
  subst hi';rw [<-hnhl] at hob;simp at hob;subst hob;refine ⟨fn,a.tmps,w.heap.size,by simp [G',Gh.own,Gh.at],?_,R.size,fun t => ?_,fun t => ?_⟩
  ·have:G'.β (.o G.nh)=w.heap.size+1:=by simp [G',Gh.at]
   rw [this];exact hL
  ·rcases a5S σ ts t with h | h
   ·simp only [St.laid,h];exact (hslots t).copy _
   simp only [St.laid,h];exact .undef _ _
  rcases a5S σ ts t with h | h
  ·simp only [St.laid,h];exact AV.copy_free _
  simp only [St.laid,h];rfl
 ·simp only [G',Gh.own,Gh.at] at h ⊢;split at h
  ·rename_i hb;subst hb;exact ⟨by simp,fun j _=>hkn _ _ (by omega)⟩
  split at h
  ·rename_i hb;subst hb;exact ⟨by simp;omega,fun j _=>hkn _ _ (by omega)⟩
  have:=R.h.disj b x f h;exact ⟨by simp;omega,this.2⟩
 ·refine ⟨?_,fun d hd => ?_⟩
  ·simp only [List.cons_append,List.nil_append,List.map_cons,List.nodup_cons];refine ⟨fun hm => ?_,R.df.1⟩;obtain ⟨x,hx,hxe⟩:=List.mem_map.1 hm;obtain ⟨r0,rfl,h2,h3⟩:=R.df.2 x hx;simp at hxe;have:=(R.h.disj _ _ _ h2).1;omega
  rcases List.mem_cons.1 hd with rfl | hd
  ·exact ⟨_,rfl,by simp [G',Gh.own,Gh.at],hD⟩
  obtain ⟨r0,h1,h2,h3⟩:=R.df.2 d hd;exact ⟨r0,h1,hOold _ _ _ h2,(hold _ (R.h.disj _ _ _ h2).1).trans h3⟩
 ·rw [hnhl];simp [G',Gh.at]
 intro m hm;exact ⟨KLe.refl _,fun x v h => .inl h,fun b hb h=>⟨hold b hb,by simp [G',Gh.own,Gh.at,Nat.ne_of_lt hb,show b≠w.heap.size+1 by omega,h]⟩,by simp;omega,fun i hi=>hβold i (by omega),rfl,rfl,fun a _=>(frozen?_alloc_new _ _ (fun _ _ _ e=>by cases e) a).trans (frozen?_alloc_new _ _ (fun _ _ _ e=>by cases e) a),rfl,Nat.le_refl _⟩
def a2J.behind (P:Program) (m:Nat) (Q:Exit->St->Prop) (σ:St):Option Code->Prop
 | none=>Q .normal σ
 | some c=>a2J P m c Q σ
theorem a2J.rangeFunc {P:Program} {m:Nat} {Q:Exit->St->Prop} {σ:St} {t:Nat} {ps:Array Tmp} {assign body:Code} {f:FuncId} {as bs:List AV} (ts:List Nat) (hg:σ.get t = .func f as bs) (hm:m<=σ.heap.length)
  {H':List Obj} {r:AV} (hin:a0s (σ.heap.length+1) (σ.heap++[.loop (σ.laid ts ps assign body)])=true) (hargs:a3k (σ.heap.length+1) (as++bs)=true)
  (_hfr:(as++bs).all AV.free=true) (hc:a0e P f (as++[.yield σ.heap.length]++bs) (σ.heap++[.loop (σ.laid ts ps assign body)]) r H')
  {st:LoopState} {pend:Option Code} (hst:st ≠ .busy) (hy:H'[σ.heap.length]?=some (.loop { σ.laid ts ps assign body with st:=st,pending:=pend }))
  (k:a2J.behind P m Q { σ with heap:=H'.set σ.heap.length (.loop { σ.laid ts ps assign body with st := .exhausted,pending:=pend }) } pend):a2J P m (.rangeFunc (.tmp t) ps assign body) Q σ:=by
 intro n G a w hm' R;refine wpIn_rangeFunc fun fn _ => ?_;obtain ⟨G1,R1,hβ,hE1⟩:=R.enterLoop ts ps assign body fn;obtain ⟨hcb,hrl,hri,hin',hHH,hcc⟩:=hc;have hrep:=R.slots t;rw [hg] at hrep;obtain ⟨va,vb,hx,ha,hb,h1,h2,hla,hlb⟩ : ∃ va vb:Array Value,a.eval (.tmp t) = .func (.func f) va vb/\va.size=as.length/\vb.size=bs.length /\
   (∀ (i:Nat) (hi:i<as.length),RepV G1 ((w.alloc (.deferred (some []))).alloc (.loop { state := .ready,pending:=none,fn,tmps:=a.tmps,params:=ps,assign,body,defers:=w.heap.size })) .no as[i] (va.getD i Go.undef)) /\
   (∀ (i:Nat) (hi:i<bs.length),RepV G1 ((w.alloc (.deferred (some []))).alloc (.loop { state := .ready,pending:=none,fn,tmps:=a.tmps,params:=ps,assign,body,defers:=w.heap.size })) .no bs[i] (vb.getD i Go.undef)) /\
   (∀ c∈as,c.isLocal=false) /\ ∀ c∈bs,c.isLocal=false:=by
  have hrep:=R1.slots t;simp only [St.get] at hrep;rw [show a1V σ.env t = .func f as bs from hg] at hrep;show ∃ va vb:Array Value,a.tmps.getD t Go.undef=_/\_;have e:({ a with defers:=[{ target := .collected w.heap.size,args := #[] }]++a.defers }:Act).tmps=a.tmps:=rfl
  rw [e] at hrep;generalize a.tmps.getD t Go.undef=v at hrep;cases hrep with | func _ _ _ _ va vb ha hb h1 h2 h3 h4=>exact ⟨va,vb,rfl,ha,hb,h1,h2,h3,h4⟩
 refine ⟨w.heap.size+1,[{ target := .collected w.heap.size,args := #[] }],((w.alloc (.deferred (some []))).alloc (.loop { state := .ready,pending:=none,fn,tmps:=a.tmps,params:=ps,assign,body,defers:=w.heap.size })),{ target := .fn (.func f) vb,args:=va ++ #[.func (.yield (w.heap.size+1)) #[] #[]] },((w.alloc (.deferred (some []))).alloc (.loop { state := .ready,pending:=none,fn,tmps:=a.tmps,params:=ps,assign,body,defers:=w.heap.size })),f,va ++ #[.func (.yield (w.heap.size+1)) #[] #[]]++vb,((w.alloc (.deferred (some []))).alloc (.loop { state := .ready,pending:=none,fn,tmps:=a.tmps,params:=ps,assign,body,defers:=w.heap.size })),
  run_enterLoop_outer _ _ _ _ _,?_,fun _ _=>trivial,?_,fun h=>by simp [Wd] at h,?_⟩
 ·have e : ∀ x,a.eval (.const x)=x:=fun _=>rfl;simp only [resolve,hx,Deferred.ofValue,Sem.run_bind,Sem.run_pure,Result.andThen_ok];simp [e]
 ·simp only [invoke];exact a4Y hcb _ _
 have hyv:(va ++ #[Value.func (.yield (w.heap.size+1)) #[] #[]]).size=(as++[AV.yield σ.heap.length]).length /\ ∀ (i:Nat) (hi:i<(as++[AV.yield σ.heap.length]).length),
   RepV G1 ((w.alloc (.deferred (some []))).alloc (.loop { state := .ready,pending:=none,fn,tmps:=a.tmps,params:=ps,assign,body,defers:=w.heap.size })) .no (as++[AV.yield σ.heap.length])[i] ((va ++ #[Value.func (.yield (w.heap.size+1)) #[] #[]]).getD i Go.undef):=a2O ha (by rfl) h1 (fun i hi=>by
   have:i=0:=by simpa using hi
   subst this;have:=RepV.yield (G:=G1) (w:=(w.alloc (.deferred (some []))).alloc (.loop { state := .ready,pending:=none,fn,tmps:=a.tmps,params:=ps,assign,body,defers:=w.heap.size })) .no σ.heap.length (by rw [<-R1.h.nh];simp);rw [hβ] at this;exact this)
 obtain ⟨k3,k4⟩:=a2O hyv.1 hb hyv.2 h2;have RH:RelH G1 ((σ.heap++[.loop (σ.laid ts ps assign body)])++[]) ((w.alloc (.deferred (some []))).alloc (.loop { state := .ready,pending:=none,fn,tmps:=a.tmps,params:=ps,assign,body,defers:=w.heap.size })):=by rw [List.append_nil];exact R1.h
 have hlen1:(σ.heap++[Obj.loop (σ.laid ts ps assign body)]).length=σ.heap.length+1:=by simp
 have hRh:=RH.handed (by rw [hlen1];exact hin);have hsub:Sub G1 (G1.handed (σ.heap++[Obj.loop (σ.laid ts ps assign body)]).length) ((w.alloc (.deferred (some []))).alloc (.loop { state := .ready,pending:=none,fn,tmps:=a.tmps,params:=ps,assign,body,defers:=w.heap.size })) ((w.alloc (.deferred (some []))).alloc (.loop { state := .ready,pending:=none,fn,tmps:=a.tmps,params:=ps,assign,body,defers:=w.heap.size })) (fun ℓ=>ℓ = .no) (σ.heap++[Obj.loop (σ.laid ts ps assign body)]).length :=
  ⟨KLe.refl _,fun b ℓ f hl hO=>absurd (hl▸rfl) (R1.h.sane.no b ℓ f hO),fun _ _=>rfl,Nat.le_refl _⟩
 refine CallsIn.mono (hcc (n-1) (G1.handed (σ.heap++[Obj.loop (σ.laid ts ps assign body)]).length) ((w.alloc (.deferred (some []))).alloc (.loop { state := .ready,pending:=none,fn,tmps:=a.tmps,params:=ps,assign,body,defers:=w.heap.size })) _ k3 (fun i hi => ?_) hRh (fun b ℓ f hO => ?_)) ?_
 ·refine (k4 i hi).sub R1.h.sane hsub rfl ?_ ?_
  ·refine a0U ?_ i hi;rw [hlen1];have inbL_app : ∀ {k:Nat} {A B:List AV},a3k k (A++B)=(a3k k A&&a3k k B):=by
    intro k A B
    induction A with
    | nil=>simp [a3k]
    | cons c A ih=>simp [a3k,ih,Bool.and_assoc]
   rw [inbL_app] at hargs;simp at hargs;rw [inbL_app,inbL_app];simp [hargs.1,hargs.2,a3k,AV.inb]
  have : ∀ c∈(as++[AV.yield σ.heap.length]++bs),c.isLocal=false:=by
   intro c hc;simp at hc;rcases hc with hc | rfl | hc
   ·exact hla c hc
   ·rfl
   exact hlb c hc
  exact this _ (zp6 _)
 ·have:=(a2n hO).2;cases ℓ <;> simp [a1h] at this
  ·rename_i i;exact ⟨i,rfl⟩
  rename_i i j;exact ⟨i,rfl⟩
 rintro e w3 ⟨v,G3,rfl,hv,R3,hE3⟩;obtain ⟨R4,hext⟩:=R1.backO (H:=σ.heap++[.loop (σ.laid ts ps assign body)]) (rest:=[]) (d:=none) (by simp) (.inl rfl) hHH R3 hE3 hin' hv hrl hri (fun x e=>by cases e);rw [List.append_nil] at R4;have hyb:(G1.back G3 (σ.heap++[Obj.loop (σ.laid ts ps assign body)]).length H'.length 0 ([]:List Obj).length).β (.o σ.heap.length)=w.heap.size+1:=by
  rw [<-hβ];exact (hext (σ.heap.length+1) (by rw [<-R1.h.nh];simp)).β _ (Nat.lt_succ_self _)
 obtain ⟨rr,e1,e2,e3,e4,e5,e6,hset⟩:=R4.setLoop (i:=σ.heap.length) hy;have hyb':(G1.back G3 (σ.heap++[Obj.loop (σ.laid ts ps assign body)]).length H'.length ((none:Option Nat).getD 0) ([]:List Obj).length).β (.o σ.heap.length)=w.heap.size+1:=hyb;rw [hyb'] at e1 hset;obtain ⟨R5,hE5⟩:=hset .exhausted pend;have e3:rr.pending=pend:=e3;have e2:rr.state=st:=e2;have hrr:({ rr with state := .exhausted }:Loop)={ rr with state := .exhausted,pending:=pend }:=by rw [<-e3]
 have hend:=run_endLoop (P:=P) e1 (by rw [e2];exact hst);rw [hrr,e3] at hend;have hEE:Ext m G w _ (w3.putObj (w.heap.size+1) (.loop { rr with state := .exhausted,pending:=pend })) :=
  ((hE1 m hm').trans (hext m (by rw [<-R1.h.nh];simp;omega))).trans (hE5 m)
 have hnh:m<=(G1.back G3 (σ.heap++[Obj.loop (σ.laid ts ps assign body)]).length H'.length ((none:Option Nat).getD 0) ([]:List Obj).length).nh:=by
  simp only [Gh.back];have:=(zp2.1 hy).1;omega
 refine ⟨pend,_,hend,?_⟩;cases pend with
 | none=>exact ⟨_,_,R5,hEE,hnh,k⟩
 | some c=>exact wpIn_mono (k n _ _ _ hnh R5) (fun e a' w' hp=>hp.ext hEE)
theorem a0a {α β:Type} {o:Option α} {f:α->Option β} {r:β} (h:o.bind f=some r) : ∃ v,o=some v/\f v=some r:=by
 cases o with
 | none=>cases h
 | some v=>exact ⟨v,rfl,h⟩
theorem cT {α:Type} {c:Bool} {x y r:α} (e:c=true) (h:cond c x y=r):x=r:=by subst e;exact h
theorem cF {α:Type} {c:Bool} {x y r:α} (e:c=false) (h:cond c x y=r):y=r:=by subst e;exact h
theorem eL {α β γ:Type} {f:α->γ} {g:β->γ} {v:α} {r:γ} (h:Sum.elim f g (.inl v)=r):f v=r:=h
theorem eR {α β γ:Type} {f:α->γ} {g:β->γ} {v:β} {r:γ} (h:Sum.elim f g (.inr v)=r):g v=r:=h
theorem soI {α:Type} {x y:α} (h:some x=some y):x=y:=Option.some.inj h
structure Cod (τ:Type) where
 un:D->Option τ
 en:τ->D
 ok : ∀ x v,un x=some v->x=en v
 ko : ∀ v,un (en v)=some v
def cI (k:IntKind):Cod Int where
 un | .int k' n=>if k'=k then some n else none
    | _=>none
 en n := .int k n
 ok x v h:=by
  cases x <;> simp at h;obtain ⟨rfl,rfl⟩:=h;rfl
 ko v:=by simp
def cB:Cod Bool where
 un | .bool b=>some b
    | _=>none
 en b := .bool b
 ok x v h:=by cases x <;> simp at h;subst h;rfl
 ko v:=rfl
def cS:Cod ByteArray where
 un | .str b=>some b
    | _=>none
 en b := .str b
 ok x v h:=by cases x <;> simp at h;subst h;rfl
 ko v:=rfl
def cL (k:Nat):Cod (List D) where
 un | .list k' l=>if k'=k then some l else none
    | _=>none
 en l := .list k l
 ok x v h:=by
  cases x <;> simp at h;obtain ⟨rfl,rfl⟩:=h;rfl
 ko v:=by simp
structure CodL (τ:Type) where
 un:List D->Option τ
 en:τ->List D
 ok : ∀ x v,un x=some v->x=en v
 ko : ∀ v,un (en v)=some v
def l1 {τ:Type} (c:Cod τ):CodL τ where
 un | [x]=>c.un x
    | _=>none
 en v:=[c.en v]
 ok x v h:=by
  match x,h with
  | [y],h=>rw [c.ok y v h]
 ko v:=c.ko v
def lc {τ ρ:Type} (c:Cod τ) (d:CodL ρ):CodL (τ×ρ) where
 un | x::r=>(c.un x).bind fun a=>(d.un r).map fun b=>(a,b)
    | []=>none
 en v:=c.en v.1::d.en v.2
 ok x v h:=by
  match x,h with
  | y::r,h =>
    obtain ⟨a,h1,h⟩:=a0a h;simp only [Option.map_eq_some_iff] at h;obtain ⟨b,h2,rfl⟩:=h;rw [c.ok y a h1,d.ok r b h2]
 ko v:=by simp [c.ko,d.ko]
def cG {τ:Type} (d:CodL τ):Cod τ where
 un | .agg l=>d.un l
    | _=>none
 en v := .agg (d.en v)
 ok x v h:=by
  cases x <;> simp at h;rw [d.ok _ v h]
 ko v:=d.ko v
def cA:Cod (List D) where
 un | .agg l=>some l
    | _=>none
 en l := .agg l
 ok x v h:=by
  cases x <;> simp at h;subst h;rfl
 ko v:=rfl
theorem c3k {T:a0i} {σ:St} {own:Bool} {t ty i k:Nat} {l:List D} {td:TD} (h1:σ.get t = .ptr i 0) (h2:σ.heap[i]?=some (.arr k l)) (h3:T ty=some td) (h4:td.isAgg=true) (h5:l.length=td.size) (h6:l.all D.isOne=true) :
  a4i T σ own (.cell t ty)=some (.d (.agg l)):=by
 simp only [a4i,h1,h3,h2];rw [if_pos ⟨trivial,h4,h5,h6⟩]
theorem lnN {A:Ar} (hA:A=Ar.std) {l:List D} {n:Nat} (h:A.zeq (A.len l) (Int.ofNat n)=true):l.length=n:=by
 subst hA;simp [Ar.std] at h;omega
theorem onN {A:Ar} (hA:A=Ar.std) {l:List D} (h:A.ones l=true):l.all D.isOne=true:=by subst hA;exact h
theorem lnF {A:Ar} (hA:A=Ar.std) {l:List D} {n:Nat} (h:l.length=n):A.zeq (A.len l) (Int.ofNat n)=true:=by subst hA h;simp [Ar.std]
def ga (A:Ar) (l:List D) (p n:Int):Option (List D):=bif A.zle (A.zadd p n) (A.len l) then bif A.ones (A.sub l p (A.zadd p n)) then some (A.sub l p (A.zadd p n)) else none else none
theorem gaI {A:Ar} {l x:List D} {p n:Int} (h:ga A l p n=some x):A.zle (A.zadd p n) (A.len l)=true/\A.sub l p (A.zadd p n)=x/\A.ones x=true:=by
 unfold ga at h;cases h1:A.zle (A.zadd p n) (A.len l) <;> cases h2:A.ones (A.sub l p (A.zadd p n)) <;> simp [h1,h2] at h;subst h;exact ⟨rfl,rfl,h2⟩
def gc {τ:Type} (A:Ar) (c:Cod τ) (l:List D) (i:Nat):Option τ:=(A.lget l i).bind c.un
theorem gcI {τ:Type} {A:Ar} {c:Cod τ} {l:List D} {i:Nat} {v:τ} (h:gc A c l i=some v):A.lget l i=some (c.en v):=by
 obtain ⟨x,h1,h2⟩:=a0a h;rw [h1,c.ok x v h2]
@[irreducible] def fuel:Nat:=1000000
theorem b3G:fuel=1000000:=by unfold fuel;rfl
theorem tf (b:Bool):b=true\/b=false:=by cases b <;> simp
theorem lb {a b:Nat} (h:Nat.ble a b=true):a<=b:=Nat.le_of_ble_eq_true h
def jn {α ρ:Type} (k:α->Option ρ) (f:(α->Option ρ)->Option ρ):Option ρ:=f k
theorem jnI {α ρ:Type} {k:α->Option ρ} {f:(α->Option ρ)->Option ρ} {r:ρ} (h:jn k f=some r) : ∃ K:α->Option ρ,(∀ v,K v=some r->k v=some r)/\f K=some r:=⟨k,fun _ h=>h,h⟩
theorem a0m {α ρ:Type} {o:Option α} {f:α->Option ρ} {r:ρ} (h:o.bind f=some r) : ∃ x,o=some x /\ ∃ K:α->Option ρ,(∀ y,K y=some r->f y=some r)/\K x=some r:=by
 obtain ⟨x,h1,h2⟩:=a0a h;exact ⟨x,h1,f,fun _ h=>h,h2⟩
open Classical in
noncomputable def both {ρ:Type} (a b:Option ρ):Option ρ:=a.bind fun x=>b.bind fun y=>if x=y then some x else none
def gt {τ:Type} (A:Ar) (c:Cod τ) (l:List D) (i:Int):Option τ:=bif A.zle 0 i then (A.lget l (A.nat i)).bind c.un else none
theorem gtI {τ:Type} {A:Ar} {c:Cod τ} {l:List D} {i:Int} {v:τ} (h:gt A c l i=some v):A.zle 0 i=true/\A.lget l (A.nat i)=some (c.en v):=by
 unfold gt at h;cases h0:A.zle 0 i with
 | false=>rw [h0] at h;cases h
 | true =>
   rw [h0] at h;obtain ⟨x,h1,h2⟩:=a0a (cT rfl h);exact ⟨rfl,by rw [h1,c.ok x v h2]⟩
def sl (A:Ar) (l:List D) (lo hi:Int):Option (List D):=bif A.zle 0 lo then bif A.zle lo hi then bif A.zle hi (A.len l) then some (A.sub l lo hi) else none else none else none
theorem slI {A:Ar} {l y:List D} {lo hi:Int} (h:sl A l lo hi=some y):A.zle 0 lo=true/\A.zle lo hi=true/\A.zle hi (A.len l)=true/\A.sub l lo hi=y:=by
 unfold sl at h;cases h0:A.zle 0 lo <;> cases h1:A.zle lo hi <;> cases h2:A.zle hi (A.len l) <;> simp [h0,h1,h2] at h;exact ⟨rfl,rfl,rfl,h⟩
def ap (A:Ar) (l m:List D):Option (List D):=bif A.fits (A.zadd (A.len l) (A.len m)) then some (A.app l m) else none
theorem apI {A:Ar} {l m y:List D} (h:ap A l m=some y):A.fits (A.zadd (A.len l) (A.len m))=true/\A.app l m=y:=by
 unfold ap at h;cases h0:A.fits (A.zadd (A.len l) (A.len m)) <;> simp [h0] at h;exact ⟨rfl,h⟩
def ck (b:Bool):Option Unit:=bif b then some () else none
theorem ckI {b:Bool} {u:Unit} (h:ck b=some u):b=true:=by cases b <;> first | rfl | cases h
def nk (b:Bool):Option Unit:=bif b then none else some ()
theorem nkI {b:Bool} {u:Unit} (h:nk b=some u):b=false:=by cases b <;> first | rfl | cases h
def lk {τ:Type} (A:Ar) (c:Cod τ) (es:List (D×D)) (k:D):Option (Option τ):=(A.mget es k).elim (some none) (fun d=>(c.un d).map some)
theorem lkN {τ:Type} {A:Ar} {c:Cod τ} {es:List (D×D)} {k:D} (h:lk A c es k=some none):A.mget es k=none:=by
 unfold lk at h;cases hm:A.mget es k with
 | none=>rfl
 | some d =>
   rw [hm] at h;simp at h
theorem lkS {τ:Type} {A:Ar} {c:Cod τ} {es:List (D×D)} {k:D} {v:τ} (h:lk A c es k=some (some v)):A.mget es k=some (c.en v):=by
 unfold lk at h;cases hm:A.mget es k with
 | none=>rw [hm] at h;simp at h
 | some d =>
   rw [hm] at h;simp at h;rw [c.ok d v h]
def fz (A:Ar) (l:List D) (lo n:Int):Option (List D):=bif A.zle (A.zadd lo n) (A.len l) then some (A.sub l lo (A.zadd lo n)) else none
theorem fzI {A:Ar} (hA:A=Ar.std) {l l':List D} {lo n:Int} (h:fz A l lo n=some l'):lo+n<=l.length/\Ar.std.sub l lo (lo+n)=l':=by
 subst hA;unfold fz at h;cases h0:Ar.std.zle (Ar.std.zadd lo n) (Ar.std.len l) <;> simp [h0] at h;refine ⟨by simpa [Ar.std] using h0,h⟩
theorem neL {A:Ar} (hA:A=Ar.std) {l:List D} (h:A.zlt 0 (A.len l)=true):l≠[]:=by
 subst hA;rintro rfl;simp [Ar.std] at h
theorem c3l {A:Ar} (hA:A=Ar.std) {l:List D}:(l.length:Int)=A.len l:=by subst hA;rfl
def AV.soft:AV->AV
 | .own k l => .d (.list k l)
 | .lim k l => .d (.list k l)
 | .tail k l => .d (.list k l)
 | v=>v
def AV.loose:AV->AV
 | .own k l => .tail k l
 | v=>v
def b2d (sf:List Nat):List (Nat×AV)->List (Nat×AV)
 | []=>[]
 | (t,v)::r=>(t,if sf.contains t then v.soft else if sf.contains (t+1000000) then v.loose else v)::b2d sf r
theorem a4G (sf:List Nat) : ∀ (e:List (Nat×AV)) (t:Nat),a1V (b2d sf e) t=if sf.contains t then (a1V e t).soft else if sf.contains (t+1000000) then (a1V e t).loose else a1V e t
 | [],t=>by simp only [b2d,a1V];split <;> (try split) <;> rfl
 | (s,v)::r,t=>by
   simp only [b2d,a1V];by_cases h:s=t
   ·subst h;simp
   simp only [if_neg h];exact a4G sf r t
theorem Rel.soft {G:Gh} {σ:St} {a:Act} {w:World} (R:Rel G σ a w) (sf:List Nat):Rel G { σ with env:=b2d sf σ.env } a w:=by
 refine ⟨R.h,R.size,fun t => ?_,fun t r off ht => ?_,R.df⟩
 ·have:=R.slots t;simp only [St.get,a4G] at this ⊢;split
  ·generalize a1V σ.env t=c at this;cases c <;> first | exact this | skip
   ·cases this with | own _ _ _ _ h _=>exact .d _ _ _ h
   ·cases this with | lim _ _ _ _ h _=>exact .d _ _ _ h
   cases this with | tail _ _ _ _ h _=>exact .d _ _ _ h
  split
  ·generalize a1V σ.env t=c at this;cases c <;> first | exact this | skip
   exact (a1O (z:=false)).2 ((a1O (z:=true)).1 this |>.imp id a3s.weak)
  exact this
 simp only [St.get,a4G] at ht ⊢;have h1:a1V σ.env t = .place r off:=by
  split at ht
  ·generalize a1V σ.env t=c at ht;cases c <;> first | exact ht | (simp [AV.soft] at ht)
  split at ht
  ·generalize a1V σ.env t=c at ht;cases c <;> first | exact ht | (simp [AV.loose] at ht)
  exact ht
 obtain ⟨cs,h2⟩:=R.places t r off h1;simp only [St.get] at h2;rw [h2];exact ⟨cs,by split <;> (try split) <;> rfl⟩
def St.fitS (σ:St) (ts sf:List Nat) (k:Nat):St:={ σ with env:=b2d sf (a8y σ.env ts),heap:=σ.heap.take k }
theorem Rel.fitS {G:Gh} {σ:St} {a:Act} {w:World} (R:Rel G σ a w) {ts:List Nat} (sf:List Nat) {k:Nat} (h:σ.fits ts k=true):Rel { G with nh:=k } (σ.fitS ts sf k) a w :=
 (R.fit h).soft sf
def AExit.onN (ts sf:List Nat) (k:Nat) (R:St->Prop) (Q:Exit->St->Prop):Exit->St->Prop
 | .normal,σ=>σ.fits ts k=true/\R (σ.fitS ts sf k)
 | e,σ=>Q e σ
def AExit.onX (j:Nat) (ts sf:List Nat) (k:Nat) (R:St->Prop) (Q:Exit->St->Prop):Exit->St->Prop
 | .exit i,σ=>if i=j then σ.fits ts k=true/\R (σ.fitS ts sf k) else Q (.exit i) σ
 | e,σ=>Q e σ
section
variable {P:Program} {m:Nat} {Q:Exit->St->Prop} {σ:St} {c:Code} {R:St->Prop} {ts sf:List Nat} {k:Nat}
theorem AWp.fitR (ts sf:List Nat) (k:Nat) (hm:m<=k) (hf:σ.fits ts k=true) (h:AWp P m c Q (σ.fitS ts sf k)):AWp P m c Q σ:=by
 intro r n G a w hm' R;refine wpIn_mono (h r n _ a w hm (R.fitS sf hf)) ?_;rintro e a' w' ⟨σ',G',R',hE,hm'',hQ⟩;exact ⟨σ',G',R',⟨hE.K,hE.new,hE.others,hE.size,hE.β,hE.io⟩,hm'',hQ⟩
theorem AWp.cutN (ts sf:List Nat) (k:Nat) (hm:m<=k) (R:St->Prop) (h:AWp P m c (AExit.onN ts sf k R Q) σ) (h2 : ∀ τ,R τ->Q .normal τ):AWp P m c Q σ:=by
 intro r n G a w hm' R0;refine wpIn_mono (h r n G a w hm' R0) ?_;rintro e a' w' ⟨σ',G',R',hE,hm'',hQ⟩;cases e with
 | normal=>exact ⟨_,_,R'.fitS sf hQ.1,hE.nh k,hm,h2 _ hQ.2⟩
 | _=>exact ⟨σ',G',R',hE,hm'',hQ⟩
theorem AWp.cutX (j:Nat) (ts sf:List Nat) (k:Nat) (hm:m<=k) (R:St->Prop) (h:AWp P m c (AExit.onX j ts sf k R Q) σ) (h2 : ∀ τ,R τ->Q (.exit j) τ):AWp P m c Q σ:=by
 intro r n G a w hm' R0;refine wpIn_mono (h r n G a w hm' R0) ?_;rintro e a' w' ⟨σ',G',R',hE,hm'',hQ⟩;cases e with
 | exit i =>
   simp only [AExit.onX] at hQ;split at hQ
   ·rename_i hi;subst hi;exact ⟨_,_,R'.fitS sf hQ.1,hE.nh k,hm,h2 _ hQ.2⟩
   exact ⟨σ',G',R',hE,hm'',hQ⟩
 | _=>exact ⟨σ',G',R',hE,hm'',hQ⟩
theorem oNi (h:σ.fits ts k=true/\R (σ.fitS ts sf k)):AExit.onN ts sf k R Q .normal σ:=h
theorem oNr (h:Q .ret σ):AExit.onN ts sf k R Q .ret σ:=h
theorem oxI {j:Nat} (h:σ.fits ts k=true/\R (σ.fitS ts sf k)):AExit.onX j ts sf k R Q (.exit j) σ:=by simp only [AExit.onX,if_true];exact h
theorem oxR {j:Nat} (h:Q .ret σ):AExit.onX j ts sf k R Q .ret σ:=h
end
section
variable {S X:Type}
def itN (step:S->Option (S⊕X)):Nat->S->Option X
 | 0,_=>none
 | n+1,s=>(step s).bind (Sum.elim (fun s'=>itN step n s') some)
theorem b3H {step:S->Option (S⊕X)} : ∀ {n m:Nat} {s:S} {x:X},n<=m->itN step n s=some x->itN step m s=some x
 | 0,_,_,_,_,h=>by cases h
 | n+1,0,_,_,hn,_=>by omega
 | n+1,m+1,s,x,hn,h=>by
   simp only [itN] at h ⊢;obtain ⟨e,he,h⟩:=a0a h;rw [he];cases e with
   | inl s'=>exact b3H (n:=n) (by omega) (eL h)
   | inr y=>exact h
open Classical in
noncomputable def iter (step:S->Option (S⊕X)) (s:S):Option X:=if h : ∃ n x,itN step n s=some x then itN step h.choose s else none
theorem a9w {step:S->Option (S⊕X)} {n:Nat} {s:S} {x:X} (h:itN step n s=some x):iter step s=some x:=by
 have hex : ∃ n x,itN step n s=some x:=⟨n,x,h⟩;unfold iter;rw [dif_pos hex];obtain ⟨y,hy⟩:=hex.choose_spec;rw [hy];have h1:=b3H (Nat.le_max_left n hex.choose) h;have h2:=b3H (Nat.le_max_right n hex.choose) hy;rw [h1] at h2;exact h2.symm
theorem a7q {step:S->Option (S⊕X)} {s:S} {x:X} (h:iter step s=some x) : ∃ n,itN step n s=some x:=by
 unfold iter at h;split at h
 ·exact ⟨_,h⟩
 cases h
theorem a1l {step:S->Option (S⊕X)} {s s':S} (h:step s=some (.inl s')):iter step s=iter step s':=by
 have key : ∀ x,iter step s=some x↔iter step s'=some x:=by
  intro x;constructor
  ·intro hx;obtain ⟨n,hn⟩:=a7q hx;cases n with
   | zero=>cases hn
   | succ n=>simp only [itN,h,Option.bind_some,Sum.elim_inl] at hn;exact a9w hn
  intro hx;obtain ⟨n,hn⟩:=a7q hx;exact a9w (n:=n+1) (by simp only [itN,h,Option.bind_some,Sum.elim_inl];exact hn)
 cases e:iter step s with
 | some x=>exact ((key x).1 e).symm
 | none =>
   cases e':iter step s' with
   | none=>rfl
   | some x=>rw [(key x).2 e'] at e;cases e
theorem a0w {step:S->Option (S⊕X)} {s:S} {x:X} (h:step s=some (.inr x)):iter step s=some x :=
 a9w (n:=1) (by simp only [itN,h,Option.bind_some,Sum.elim_inr])
theorem exL {e:S⊕X} {x x':X} {p:Prop} (he:some (Sum.inr x')=some e) (hq:x'=x->p) : ∃ x'',e = .inr x''/\(x''=x->p):=⟨x',(soI he).symm,hq⟩
variable {P:Program} {m:Nat} {Q:Exit->St->Prop} {σ:St} {c:Code}
theorem AWp.iter {step:S->Option (S⊕X)} {s0:S} {x:X} (hx:iter step s0=some x) (ts sf:List Nat) (k:Nat) (hm:m<=k) (F:S->St) (hf:σ.fits ts k=true/\σ.fitS ts sf k=F s0)
  (h : ∀ s e,step s=some e->AWp P m c (AExit.then (fun σ' => ∃ s',e = .inl s'/\σ'.fits ts k=true/\σ'.fitS ts sf k=F s') (fun ex σ' => ∃ x',e = .inr x'/\(x'=x->Q ex σ'))) (F s)):AWp P m (.loop c) Q σ:=by
 obtain ⟨n,hn⟩:=a7q hx;refine AWp.fitR ts sf k hm hf.1 ?_;rw [hf.2];refine AWp.loop (ι:={ i:S×Nat // itN step i.2 i.1=some x }) (fun i=>i.1.2) (fun i=>F i.1.1) ⟨(s0,n),hn⟩ ?_;rintro ⟨⟨s,n⟩,hi⟩;cases n with
 | zero=>cases hi
 | succ n =>
   simp only [itN] at hi;obtain ⟨e,he,hi⟩:=a0a hi;intro r n' G a w hm' R;refine wpIn_mono (h s e he r n' G a w hm' R) ?_;rintro ex a' w' ⟨σ',G',R',hE,hm'',hq⟩;cases ex with
   | normal =>
     obtain ⟨s',rfl,h1,h2⟩:=hq;exact ⟨_,_,R'.fitS sf h1,hE.nh k,hm,⟨(s',n),hi⟩,Nat.lt_succ_self _,h2⟩
   | _=>obtain ⟨x',rfl,h1⟩:=hq;exact ⟨σ',G',R',hE,hm'',h1 (soI hi)⟩
end
section
variable {P:Program} {T:a0i} {m:Nat} {Q:Exit->St->Prop} {K:St->Prop} {σ σ':St} {ops:Array Oper} {id:Nat} {c:Code} {A:Ar}
theorem nT (h:K σ):AExit.then K Q .normal σ:=h
theorem nB (h:Q .normal σ):AExit.block id Q .normal σ:=h
theorem xT {j:Nat} (h:Q (.exit j) σ):AExit.then K Q (.exit j) σ:=h
theorem xB (h:Q .normal σ):AExit.block id Q (.exit id) σ:=by simp only [AExit.block,if_true];exact h
theorem rT (h:Q .ret σ):AExit.then K Q .ret σ:=h
theorem rB (h:Q .ret σ):AExit.block id Q .ret σ:=h
theorem AWp.rg (hT:TOk P T) (hA:A=Ar.std) (an:Ann) (h:a7m A T an ops.toList ops.toList σ = .done σ') (hm:m<=σ.heap.length) (k:Q .normal σ'):AWp P m (.region id ops false) Q σ :=
 AWp.reg1 an hT (fun A' hA'=>by subst hA';subst hA;exact h) hm k
theorem AWp.rd (hT:TOk P T) (hA:A=Ar.std) (an:Ann) (hmix:P.follows .mixedOrders=true) {xs:List Rec} (h:a8B A T an ops.toList ops.toList σ [] = .done σ' xs) (hok:a2y ops.toList (xs.map Rec.foot)=true) (hm:m<=σ.heap.length) (k:Q .normal σ'):AWp P m (.region id ops true) Q σ :=
 AWp.reg1D an hT hmix (fun A' hA'=>by subst hA';subst hA;exact h) hok hm k
variable {l rest:List Oper} {f:FuncId} {args:List AV} {o:Oper} {σ1:St} {H Hr H':List Obj} {r:AV} {d:Nat} {xs xs1:List Rec}
theorem a1D.cc (hT:TOk P T) (hA:A=Ar.std) (an:Ann) (h:a7m A T an ops.toList l σ = .call f args o rest σ1)
  (hm:m<=σ.heap.length) (hc:a0e P f args H r H') (hH:σ1.heap=H++Hr) (hr:Hr=[]\/H'.length=H.length) (hin:a0s H.length H=true) (hargs:a3k H.length args=true) (hd:o.dst=some d) (hlt:d<σ1.n) (hb:(σ1.get d).isBox=false)
  (hfr:args.all AV.free=true) (k:a1D P m ops rest Q { σ1 with env:=a2A σ1.env d r,heap:=H'++Hr }):a1D P m ops l Q σ :=
 a1D.stepCall hT (an:=an) (fun A' hA'=>by subst hA';subst hA;exact h) hm hH hr hin hargs hd hlt hb hfr hc k
theorem a1D.cd (hT:TOk P T) (hA:A=Ar.std) (an:Ann) (h:a7m A T an ops.toList l σ = .done σ') (hm:m<=σ.heap.length) (hq:Q .normal σ'):a1D P m ops l Q σ :=
 a1D.done hT (an:=an) (fun A' hA'=>by subst hA';subst hA;exact h) hm hq
theorem a0W.cl (hT:TOk P T) (hA:A=Ar.std) (an:Ann) (hl:l=ops.toList.drop xs.length) (h:a8B A T an ops.toList l σ xs = .call f args o rest σ1 xs1)
  (hc:a0e P f args H r H') (hH:σ1.heap=H++Hr) (hr:H'.length=H.length) (hin:a0s H.length H=true) (hargs:a3k H.length args=true) (hd:o.dst=some d) (hlt:d<σ1.n) (hb:(σ1.get d).isBox=false) (hfr:args.all AV.free=true)
  (k:a0W P m ops rest (xs1++[{ sets:=[(d,r)],heap:=none,rd:=a0n ops.toList o,hr:=false,ho:=List.range H.length,low:=H' }]) K (σ1.upd [(d,r)] (some (H'++Hr)))):a0W P m ops l xs K σ :=
 a0W.stepCallL hT (an:=an) hl (fun A' hA'=>by subst hA';subst hA;exact h) hH hr hin hargs hd hlt hb hfr hc k
theorem a0W.c0 (hT:TOk P T) (hA:A=Ar.std) (an:Ann) (hl:l=ops.toList.drop xs.length) (h:a8B A T an ops.toList l σ xs = .call f args o rest σ1 xs1)
  (hc:a0e P f args [] r []) (hargs:a3k 0 args=true) (hd:o.dst=some d) (hlt:d<σ1.n) (hb:(σ1.get d).isBox=false) (hfr:args.all AV.free=true)
  (k:a0W P m ops rest (xs1++[{ sets:=[(d,r)],heap:=none,rd:=a0n ops.toList o,hr:=false,ho:=[],low:=[] }]) K (σ1.upd [(d,r)] none)):a0W P m ops l xs K σ :=
 a0W.stepCall hT (an:=an) hl (fun A' hA'=>by subst hA';subst hA;exact h) hargs hd hlt hb hfr hc k
theorem a0W.cd (hT:TOk P T) (hA:A=Ar.std) (an:Ann) {xs':List Rec} (hl:l=ops.toList.drop xs.length) (h:a8B A T an ops.toList l σ xs = .done σ' xs') (hok:a2y ops.toList (xs'.map Rec.foot)=true) (hq:K σ'):a0W P m ops l xs K σ :=
 a0W.done hT (an:=an) hl (fun A' hA'=>by subst hA';subst hA;exact h) hok hq
theorem AWp.cdT {t:Nat} {x y:Code} {b:Bool} (hc:σ.get t = .d (.bool b)) (hb:b=true) (h:AWp P m x Q σ):AWp P m (.cond (.tmp t) x y) Q σ:=by
 subst hb;exact AWp.cond (b:=true) hc h
theorem AWp.cdF {t:Nat} {x y:Code} {b:Bool} (hc:σ.get t = .d (.bool b)) (hb:b=false) (h:AWp P m y Q σ):AWp P m (.cond (.tmp t) x y) Q σ:=by
 subst hb;exact AWp.cond (b:=false) hc h
theorem bN (h:Q .normal σ):a2J.behind P m Q σ none:=h
theorem a1D.cy (hT:TOk P T) (hA:A=Ar.std) (an:Ann) {y:Nat} (h:a7m A T an ops.toList l σ = .yield y args o rest σ1)
  (hm:m<=σ.heap.length) (hc:a7p P y args H r H') (hH:σ1.heap=H++Hr) (hr:Hr=[]\/H'.length=H.length) (hin:a0s H.length H=true) (hargs:a3k H.length args=true) (hd:o.dst=some d) (hlt:d<σ1.n) (hb:(σ1.get d).isBox=false)
  (hfr:args.all AV.free=true) (k:a1D P m ops rest Q { σ1 with env:=a2A σ1.env d r,heap:=H'++Hr }):a1D P m ops l Q σ :=
 a1D.stepY hT (an:=an) (fun A' hA'=>by subst hA';subst hA;exact h) hm hH hr hin hargs hd hlt hb hfr hc k
def cAt:Code->List Nat->Code
 | c,[]=>c
 | .seq a _,0::r=>cAt a r
 | .seq _ b,_::r=>cAt b r
 | .cond _ a _,0::r=>cAt a r
 | .cond _ _ b,_::r=>cAt b r
 | .block _ b,_::r=>cAt b r
 | .loop b,_::r=>cAt b r
 | .scope b,_::r=>cAt b r
 | .rangeFunc _ _ a _,0::r=>cAt a r
 | .rangeFunc _ _ _ b,_::r=>cAt b r
 | c,_=>c
end
def cIf:Cod Int where
 en z := .iface z
 un d:=match d with | .iface z=>some z | _=>none
 ok d z h:=by
  cases d <;> simp at h;rw [h]
 ko z:=rfl
theorem ifF {A:Ar} (hA:A=Ar.std) {z:Int} {n:Nat} (h:A.zeq z (Int.ofNat n)=true):z=Int.ofNat n:=by
 subst hA;exact of_decide_eq_true h
def cU:Cod Unit where
 en _ := .agg []
 un d:=match d with | .agg []=>some () | _=>none
 ok d z h:=by
  split at h
  ·rfl
  cases h
 ko z:=rfl
variable {P:Program} {T:a0i} {A:Ar} {m:Nat} {ops:Array Oper} {σ σ1:St} {o:Oper} {i:Nat} {K:St->Prop} {l rest:List Oper} {xs xs1:List Rec}
theorem a2o.callP (hT:TOk P T) (ho:ops[i]?=some o) {f:FuncId} {args:List AV} {r:AV} {H rest:List Obj} {d:Nat} (hw:a2l ops.toList σ o=some true) (hcall:a2x T σ o=some (f,args)) (hH:σ.heap=H++rest)
  (hin:a0s H.length H=true)
  (hargs:a3k H.length args=true) (hd:o.dst=some d) (hlt:d<σ.n) (hb:(σ.get d).isBox=false) (hfr:args.all AV.free=true) (hc:a0e P f args H r H) :
  a2o P m ops i σ { sets:=[(d,r)],heap:=none,rd:=a0n ops.toList o,hr:=false,ho:=List.range H.length,low:=[] }:=by
 intro τ hrd hhr hho hn hm;have h:=a2o.callL (m:=m) hT ho hw hcall hH rfl hin hargs hd hlt hb hfr hc τ hrd hhr hho hn hm;have e:Rec.app τ { sets:=[(d,r)],heap:=none,rd:=a0n ops.toList o,hr:=false,ho:=List.range H.length,low:=H }=Rec.app τ { sets:=[(d,r)],heap:=none,rd:=a0n ops.toList o,hr:=false,ho:=List.range H.length,low:=[] }:=by
  obtain ⟨rest',hheap⟩ : ∃ rest',τ.heap=H++rest':=a6F (fun a ha=>by
   rw [hho a (List.mem_range.2 ha),hH,zp7 ha])
  have:a3n H τ.heap=τ.heap:=by unfold a3n;rw [hheap,List.drop_left]
  simp only [Rec.app,St.upd,Option.getD_none,this,b3A]
 rw [e] at h;exact h
theorem a0W.cp (hT:TOk P T) (hA:A=Ar.std) (an:Ann) {f:FuncId} {args:List AV} {r:AV} {H Hr:List Obj} {d:Nat} (hl:l=ops.toList.drop xs.length) (h:a8B A T an ops.toList l σ xs = .call f args o rest σ1 xs1)
  (hc:a0e P f args H r H) (hH:σ1.heap=H++Hr) (hin:a0s H.length H=true) (hargs:a3k H.length args=true) (hd:o.dst=some d) (hlt:d<σ1.n) (hb:(σ1.get d).isBox=false) (hfr:args.all AV.free=true)
  (k:a0W P m ops rest (xs1++[{ sets:=[(d,r)],heap:=none,rd:=a0n ops.toList o,hr:=false,ho:=List.range H.length,low:=[] }]) K (σ1.upd [(d,r)] none)):a0W P m ops l xs K σ :=
 a0W.run (an:=an) hT l xs σ hl (by
  rw [(fun A' (hA':A'=Ar.std)=>by subst hA';subst hA;exact h : ∀ A:Ar,A=Ar.std->a8B A T an ops.toList l σ xs = .call f args o rest σ1 xs1) _ rfl];exact fun hcall hw ho=>a0W.cons (a2o.callP hT ho hw hcall hH hin hargs hd hlt hb hfr hc) k)
theorem rs1 {x:ResultVar} {a:AV} (h:a4i T σ true x=some a):b5H T σ [x]=some a:=h
end Go.Am
namespace Go.Am
open Go
variable {P:Program} {m:Nat} {Q:Exit->St->Prop} {σ:St} {c:Code}
theorem RelH.freezeP {G:Gh} {H:List Obj} {w:World} {c:Loc} (R:RelH G H w) {i k:Nat} {lo n:Int} {l:List D} {v:Value} (hrep:RepV G w c (.mref i k lo n) v) (hi:H[i]?=some (.arr k l)) (hfit:lo+n<=l.length) :
  ∃ G',RelH G' (H.set i .dead) w/\RepD G'.K (.list k (Ar.std.sub l lo (lo+n))) v/\(∀ m,Ext m G w G' w)/\Pres G G' w w (fun x=>x ≠ .o i)/\G'.β=G.β:=by
 cases hrep with | mref _ _ _ _ _ b off cap hnh hlo hn hcap hbo =>
 obtain ⟨vs,e,hO,hw,hu,hsz,h1,hh⟩:=R.objs i _ hi;have hil:i<H.length:=(zp2.1 hi).1;have hfl:=a0b hu;let B:=G.β (.o i);let G':Gh:={ G with K:=fun x=>if x.block=B/\x.spot=none/\x.off<(D.flat l).length then some (vs.getD x.off Go.undef) else G.K x,O:=fun x=>if x=B then none else G.O x }
 have hdisj:=R.disj _ _ _ hO;have hKle:KLe G.K G'.K:=by
  intro x v h;simp only [G'];rw [if_neg];exact h;rintro ⟨hb,hsp,_⟩;obtain ⟨xb,xo,xs⟩:=x;simp at hb hsp;subst hb hsp;rw [hdisj.2 xo (Nat.zero_le _)] at h;cases h
 have hOold : ∀ b' x f',x ≠ .o i->G.O b'=some (x,f')->G'.O b'=some (x,f'):=by
  intro b' x f' hx h;have:b'≠B:=by rintro rfl;rw [show G.O B=_ from hO] at h;simp at h;exact hx h.1.symm
  simp only [G'];rw [if_neg this];exact h
 have hpr:Pres G G' w w (fun x=>x ≠ .o i) :=
  ⟨hKle,fun b' x f' hx h=>⟨hOold b' x f' hx h,rfl⟩,fun _ _=>rfl,Nat.le_refl _⟩
 have hkept : ∀ x v,G'.K x=some v->w.cell? x=some v:=by
  intro x v h;simp only [G'] at h;split at h
  ·rename_i hc;obtain ⟨xb,xo,xs⟩:=x;obtain ⟨h1',h2',h3'⟩:=hc;simp at h1' h2' h3' h;subst h1' h2';rw [a0V hw (by omega)];simpa using h
  exact R.kept x v h
 obtain ⟨LO,rfl⟩:=zp9 hlo;obtain ⟨N,rfl⟩:=zp9 hn;have hsubl:Ar.std.sub l LO (LO+N)=(l.drop LO).take N:=by
  simp only [Ar.std];congr 1
  all_goals omega
 have hlist':RepD G'.K (.list k ((l.drop LO).take N)) (.slice (some ⟨b,off,none⟩) N cap):=by
  by_cases hN:N=0
  ·subst hN;simp only [List.take_zero];exact RepD.empty _ _ _ _ _
  obtain ⟨rfl,rfl⟩:=hbo (by omega);simp only [Int.toNat_natCast];have hus:=hu.sub LO N;have hln:((l.drop LO).take N).length=N:=by simp;omega
  have hfe:D.flat ((l.drop LO).take N)=((D.flat l).drop (LO*k)).take (N*k):=by
   rw [a1g (fun x hx=>hu x (List.mem_of_mem_drop hx)),a1Q hu]
  have hflN:=a0b hus;have hmul:LO*k+N*k<=l.length*k:=by rw [<-Nat.add_mul];exact Nat.mul_le_mul_right _ (by omega)
  have hgetj : ∀ (j:Nat) (hj:j<(D.flat ((l.drop LO).take N)).length),(D.flat ((l.drop LO).take N))[j]=(D.flat l)[LO*k+j]'(by rw [hflN,hln] at hj;omega):=by
   intro j hj;simp only [hfe,List.getElem_take,List.getElem_drop]
  have:=RepD.list (K:=G'.K) k ((l.drop LO).take N) (G.β (.o i)) (LO*k) cap (fun j=>vs.getD (LO*k+j) Go.undef) hus (by rw [hln];simpa using hcap)
   (fun j hj=>by
    rw [hflN,hln] at hj;have hjj:LO*k+j<(D.flat l).length:=by omega
    simp [G',B,hjj])
   (fun j hj=>by rw [hflN,hln] at hj;exact h1 _ (by omega))
   (fun j hj=>by
    rw [hgetj j hj];rw [hflN,hln] at hj;exact (hh _ (by omega)).mono hKle)
  rwa [hln] at this
 refine ⟨G',⟨⟨fun b' x f' h => ?_⟩,by simpa [G'] using R.nh,fun i' ob hob => ?_,hkept,fun b' x f' h => ?_⟩,by rw [hsubl];exact hlist',fun m=>⟨hKle,fun x v h => ?_,fun b' hb h=>⟨rfl,?_⟩,Nat.le_refl _,fun _ _=>rfl,rfl,rfl,fun _ _=>rfl,rfl,Nat.le_refl _⟩,hpr,rfl⟩
 ·simp only [G'] at h;split at h
  ·cases h
  exact R.sane.no b' x f' h
 ·by_cases hii:i=i'
  ·subst hii;simp [List.getElem?_set_self hil] at hob;subst hob;trivial
  rw [List.getElem?_set_ne hii] at hob;exact (R.objs i' ob hob).pres R.sane (by rw [<-R.nh];exact (zp2.1 hob).1) hpr (by simp;exact fun e=>hii e.symm) (by simp)
 ·simp only [G'] at h ⊢;split at h
  ·cases h
  rename_i hne;refine ⟨(R.disj b' x f' h).1,fun j hj => ?_⟩;rw [if_neg (by intro hc;exact hne hc.1)];exact (R.disj b' x f' h).2 j hj
 ·simp only [G'] at h;split at h
  ·rename_i hc;exact .inr (.inl ⟨_,by rw [hc.1];exact hO⟩)
  exact .inl h
 simp only [G'];split
 ·rfl
 exact h
end Go.Am
namespace Go.Am
open Go
mutual
def D.kf:D->Bool
 | .list _ []=>true
 | .list _ (_::_)=>false
 | .agg l=>kfD l
 | .ref _=>false
 | _=>true
def kfD:List D->Bool
 | []=>true
 | x::r=>x.kf&&kfD r
end
theorem b3I : ∀ {l:List D},kfD l=true -> ∀ (i:Nat) (hi:i<l.length),l[i].kf=true
 | x::r,h,0,_=>by simp [kfD] at h;exact h.1
 | x::r,h,i+1,hi=>by simp [kfD] at h;exact b3I h.2 i (by simpa using hi)
mutual
def AV.kf:AV->Bool
 | .own .. | .lim .. | .tail .. | .lbox _ | .place .. | .iptr _ | .fresh .. => false
 | .d x=>x.kf
 | .func _ as bs=>kfL as&&kfL bs
 | .agg cs | .tuple cs=>kfL cs
 | _=>true
def kfL:List AV->Bool
 | []=>true
 | c::r=>c.kf&&kfL r
end
theorem a5T : ∀ {l:List AV},kfL l=true -> ∀ (i:Nat) (hi:i<l.length),l[i].kf=true
 | x::r,h,0,_=>by simp [kfL] at h;exact h.1
 | x::r,h,i+1,hi=>by simp [kfL] at h;exact a5T h.2 i (by simpa using hi)
theorem RepD.kf {K K':Addr->Option Value} {x:D} {v:Value} (h:RepD K x v):x.kf=true->RepD K' x v:=by
 induction h with
 | bool b=>exact fun _ => .bool b
 | int k n=>exact fun _ => .int k n
 | str s=>exact fun _ => .str s
 | iface z=>exact fun _ => .iface z
 | agg cs vs hs _ h1 ih=>exact fun hk => .agg cs vs hs (fun i hi=>ih i hi (b3I (by simpa [D.kf] using hk) i hi)) h1
 | ref cs b off vs hk h1 _ _=>exact fun hkf=>by simp [D.kf] at hkf
 | nil k=>exact fun _ => .nil k
 | none0 k a=>exact fun _ => .none0 k a
 | list k l b off cap vs hu hc hk h1 _ ih =>
   intro hkf;cases l with
   | nil=>exact .list k [] b off cap vs hu hc (fun j hj=>by simp [D.flat] at hj) (fun j hj=>by simp [D.flat] at hj) (fun j hj=>by simp [D.flat] at hj)
   | cons y r=>simp [D.kf] at hkf
theorem RepV.kf {G G':Gh} {w w':World} {ℓ:Loc} {av:AV} {v:Value} (h:RepV G w ℓ av v) (hβ : ∀ a,a<G.nh->G'.β (.o a)=G.β (.o a)) (hn:G.nh<=G'.nh):av.kf=true -> ∀ ℓ',RepV G' w' ℓ' av v:=by
 induction h with
 | undef ℓ v=>exact fun _ ℓ' => .undef ℓ' v
 | abool ℓ b=>exact fun _ ℓ' => .abool ℓ' b
 | d ℓ x v h=>exact fun hk ℓ' => .d ℓ' x v (h.kf (by simpa [AV.kf] using hk))
 | ptr ℓ a off ha=>intro _ ℓ';rw [<-hβ a ha];exact .ptr ℓ' a off (Nat.lt_of_lt_of_le ha hn)
 | nilptr ℓ=>exact fun _ ℓ' => .nilptr ℓ'
 | iptr ℓ cs b off vs hK h1 h=>intro hk;simp [AV.kf] at hk
 | own ℓ k l v h ht=>intro hk;simp [AV.kf] at hk
 | lim ℓ k l v h ht=>intro hk;simp [AV.kf] at hk
 | tail ℓ k l v h ht=>intro hk;simp [AV.kf] at hk
 | func ℓ f as bs va vb ha hb _ _ hc hc' ih ih' =>
   intro hk ℓ';simp [AV.kf] at hk;exact .func ℓ' f as bs va vb ha hb (fun i hi=>ih i hi (a5T hk.1 i hi) _) (fun i hi=>ih' i hi (a5T hk.2 i hi) _) hc hc'
 | nilfunc ℓ=>exact fun _ ℓ' => .nilfunc ℓ'
 | yield ℓ l hl=>intro _ ℓ';rw [<-hβ l hl];exact .yield ℓ' l (Nat.lt_of_lt_of_le hl hn)
 | map ℓ a ha=>intro _ ℓ';rw [<-hβ a ha];exact .map ℓ' a (Nat.lt_of_lt_of_le ha hn)
 | nilmap ℓ=>exact fun _ ℓ' => .nilmap ℓ'
 | lbox t cs vs e hO hw hs _ hc ih=>intro hk;simp [AV.kf] at hk
 | place ℓ r off=>intro hk;simp [AV.kf] at hk
 | mref ℓ a k lo n b off cap ha h1 h2 h3 h4=>intro _ ℓ';exact .mref ℓ' a k lo n b off cap (Nat.lt_of_lt_of_le ha hn) h1 h2 h3 (fun h=>by rw [hβ a ha];exact h4 h)
 | mcap ℓ a k lo n c b off cap ha h1 h2 h3 h4 h5=>intro _ ℓ';exact .mcap ℓ' a k lo n c b off cap (Nat.lt_of_lt_of_le ha hn) h1 h2 h3 h4 (fun h=>by rw [hβ a ha];exact h5 h)
 | gref ℓ a k p ha hc hq=>intro _ ℓ';rw [<-hβ _ ha,<-hβ _ (by omega:a+1<_)] at hc;rw [<-hβ _ ha,<-hβ _ (by omega:a+1<_)];exact .gref ℓ' a k p (Nat.lt_of_lt_of_le ha hn) hc (fun h=>by rw [hβ _ (by omega:a<_)];exact hq (by rw [<-hβ _ (by omega:a+1<_)];exact h))
 | fresh ℓ k l v h=>intro hk;simp [AV.kf] at hk
 | junk ℓ v h=>exact fun _ ℓ' => .junk ℓ' v h
 | eptr ℓ a k i j ha hi=>intro _ ℓ';rw [<-hβ a ha];exact .eptr ℓ' a k i j (Nat.lt_of_lt_of_le ha hn) hi
 | vptr ℓ a k i j m z ha hi hz hm=>intro _ ℓ';rw [<-hβ a ha];exact .vptr ℓ' a k i j m z (Nat.lt_of_lt_of_le ha hn) hi hz hm
 | agg ℓ cs vs hs _ hc hf ih=>intro hk ℓ';exact .agg ℓ' cs vs hs (fun i hi=>ih i hi (a5T (by simpa [AV.kf] using hk) i hi) _) hc hf
 | tuple ℓ cs vs hs _ hc ih=>intro hk ℓ';exact .tuple ℓ' cs vs hs (fun i hi=>ih i hi (a5T (by simpa [AV.kf] using hk) i hi) _) hc
def c0p (l:List D):Bool:=l.all fun x=>match x with | .list _ ys=>scalars ys | _=>false
def loose (l:List D):Bool:=scalars l||c0p l
def c3m (P:Program) (c:Code) (Q:Exit->St->Prop) (σ:St):Prop :=
 ∀ (n:Nat) (G0:Gh) (w0:World) (G:Gh) (a:Act) (w:World),(∀ b,G0.O b=none)->(∀ x v,G0.K x=some v->x.block<w0.heap.size)->Rel G σ a w->Ext 0 G0 w0 G w->c.wpIn (Wd none) n P (Post 0 G0 w0 Q) a w
section
variable {P:Program} {c x y:Code} {Q:Exit->St->Prop} {σ:St}
theorem c3m.seq (h:a2J P 0 x (AExit.then (c3m P y Q) Q) σ):c3m P (.seq x y) Q σ:=by
 intro n G0 w0 G a w hO hK R hE0;refine wpIn_seq (wpIn_mono (h n G a w (Nat.zero_le _) R) ?_);rintro e a' w' ⟨σ',G',R',hE,hm',hQ⟩;cases e with
 | normal=>exact hQ n G0 w0 G' a' w' hO hK R' (hE0.trans hE)
 | _=>exact ⟨σ',G',R',hE0.trans hE,hm',hQ⟩
end
end Go.Am
namespace Go.Am
open Go
section
variable (x y:Int) (l m:List D)
@[simp] theorem a1X:Ar.std.zle x y=decide (x<=y):=rfl
@[simp] theorem a0R:Ar.std.zlt x y=decide (x<y):=rfl
@[simp] theorem a2i:Ar.std.zeq x y=decide (x=y):=rfl
@[simp] theorem a0j (k:IntKind):Ar.std.wrp k x=k.wrap x:=rfl
@[simp] theorem a0u:Ar.std.zadd x y=x+y:=rfl
@[simp] theorem a0A:Ar.std.zsub x y=x-y:=rfl
@[simp] theorem c2l:Ar.std.zmul x y=x*y:=rfl
@[simp] theorem c3n:Ar.std.nat x=x.toNat:=rfl
@[simp] theorem a5U:Ar.std.len l=(l.length:Int):=rfl
@[simp] theorem b5L (i:Nat):Ar.std.lget l i=l[i]?:=rfl
@[simp] theorem b5M:Ar.std.fits x=decide (x<4294967296):=rfl
@[simp] theorem b3J:Ar.std.sub l x y=(l.drop x.toNat).take (y.toNat-x.toNat):=rfl
@[simp] theorem c3o:Ar.std.app l m=l++m:=rfl
@[simp] theorem c3p (k:IntKind):Ar.std.quo k x y=k.wrap (x.tdiv y):=rfl
@[simp] theorem c3q:Ar.std.rem x y=x.tmod y:=rfl
@[simp] theorem b8j (k:IntKind):Ar.std.shl k x y=k.wrap (x*2 ^ (min y.toNat k.bits)):=rfl
@[simp] theorem c3r (k:IntKind):Ar.std.shr k x y=x.fdiv (2 ^ (min y.toNat k.bits)):=rfl
@[simp] theorem c2m (op:BinOp) (k:IntKind):Ar.std.bits op k x y=a2I op k x y:=rfl
@[simp] theorem c3s (a b:Bool):Ar.std.beq a b=(a == b):=rfl
@[simp] theorem b5N:Ar.std.zmin x y=if y<x then y else x:=rfl
@[simp] theorem c2n:Ar.std.zmax x y=if y>x then y else x:=rfl
@[simp] theorem b5O (es:List (D×D)) (k:D):Ar.std.mget es k=Am.mget es k:=rfl
@[simp] theorem c2o (es:List (D×D)) (k v:D):Ar.std.mput es k v=Am.mput es k v:=rfl
@[simp] theorem b0v (es:List (D×D)) (k:D):Ar.std.midx es k=(Am.midx es k:Int):=rfl
@[simp] theorem b5P (es:List (D×D)) (z:Int):Ar.std.mhas es z=decide (0<=z/\z<es.length):=rfl
@[simp] theorem b5Q (es:List (D×D)) (z:Int) (v:D):Ar.std.mset es z v=es.modify z.toNat fun p=>(p.1,v):=rfl
@[simp] theorem c2p (i:Nat) (d:D):Ar.std.lset l i d=l.set i d:=rfl
@[simp] theorem b8k (d:D):Ar.std.rep x d=List.replicate x.toNat d:=rfl
@[simp] theorem c2q:Ar.std.ones l=l.all D.isOne:=rfl
@[simp] theorem c3t:Ar.std.spl l x m=l.take x.toNat++m++l.drop (x.toNat+m.length):=rfl
@[simp] theorem b0w (d:D):Ar.std.fill l x y d=a1p l x y d:=rfl
open Classical in
@[simp] theorem b8l:Ar.std.deq l m=decide (l=m):=rfl
end
theorem a2W (n:Int) (h0 : -9223372036854775808<=n) (h1:n<9223372036854775808):IntKind.i64.wrap n=n:=by
 simp [IntKind.wrap_i64];omega
@[simp] theorem a1a {α β:Type} (a:α) (f:α->Option β):(some a).bind f=f a:=rfl
@[simp] theorem b8m:ck true=some ():=rfl
@[simp] theorem c2r:nk false=some ():=rfl
theorem a6u {b:Bool} (h:b=true):ck b=some ():=by rw [h];rfl
@[simp] theorem c0q {α:Type} (c:Bool) (a b:α):(bif c then some a else some b)=some (bif c then a else b):=by cases c <;> rfl
@[simp] theorem c5m (k:IntKind) (n:Int):(cI k).un (.int k n)=some n:=by simp [cI]
@[simp] theorem c5n (b:Bool):cB.un (.bool b)=some b:=rfl
@[simp] theorem c5o (b:ByteArray):cS.un (.str b)=some b:=rfl
@[simp] theorem c5p (l:List D):cA.un (.agg l)=some l:=rfl
@[simp] theorem c5q {τ:Type} (c:Cod τ) (x:D):(l1 c).un [x]=c.un x:=rfl
@[simp] theorem c5r {τ ρ:Type} (c:Cod τ) (d:CodL ρ) (x:D) (r:List D):(lc c d).un (x::r)=(c.un x).bind fun a=>(d.un r).map fun b=>(a,b):=rfl
@[simp] theorem c5s {τ:Type} (d:CodL τ) (l:List D):(cG d).un (.agg l)=d.un l:=rfl
theorem c0r {α:Type} (f:α->D) (l:List α) (lo hi:Int) (h0:0<=lo) (h1:lo<=hi) (h2:hi<=l.length):sl Ar.std (l.map f) lo hi=some (((l.drop lo.toNat).take (hi.toNat-lo.toNat)).map f):=by
 simp [sl,h0,h1,h2,List.map_take,List.map_drop]
theorem b8n {α:Type} (f:α->D) (l:List α) (i:Nat) (h2:i<=l.length):sl Ar.std (l.map f) 0 (i:Int)=some ((l.take i).map f):=by
 rw [c0r f l 0 i (by omega) (by omega) (by omega)];simp
theorem b0x {α:Type} (f:α->D) (l m:List α) (h:(l.length:Int)+m.length<4294967296):ap Ar.std (l.map f) (m.map f)=some ((l++m).map f):=by
 simp [ap,h]
theorem c0s {α:Type} (f:α->D) (l:List α) (a:α) (d:D) (hd:f a=d) (h:l.length<4294967295):ap Ar.std (l.map f) [d]=some ((l++[a]).map f):=by
 subst hd;exact b0x f l [a] (by simp;omega)
section
variable {S X:Type} {step:S->Option (S⊕X)}
end
def a9x {α S X:Type} (f:S->α->S⊕X) (fin:S->X):List α->S->X
 | [],s=>fin s
 | a::l,s=>(f s a).elim (a9x f fin l) id
section
variable {α S X:Type}
theorem a6G (f:S->α->S⊕X) (fin:S->X) (a:α) (l:List α) (s:S):a9x f fin (a::l) s=(f s a).elim (a9x f fin l) id:=rfl
theorem a8C (g:S->α->S) (fin:S->X) : ∀ (l:List α) (s:S),a9x (fun s a => .inl (g s a)) fin l s=fin (l.foldl g s)
 | [],_=>rfl
 | a::l,s=>by simp only [a6G,Sum.elim_inl,a8C g fin l,List.foldl_cons]
variable {T:Type} {step:T->Option (T⊕X)}
theorem b3K (l:List α) (st:S->Nat->T) (f:S->α->S⊕X) (fin:S->X) (Inv:Nat->S->Prop)
  (hs : ∀ i a s,l[i]?=some a->Inv i s->(∃ s',f s a = .inl s'/\Inv (i+1) s'/\step (st s i)=some (.inl (st s' (i+1))))\/(∃ x,f s a = .inr x/\step (st s i)=some (.inr x)))
  (he : ∀ s,Inv l.length s->step (st s l.length)=some (.inr (fin s))) (s0:S) (h0:Inv 0 s0):iter step (st s0 0)=some (a9x f fin l s0):=by
 have key : ∀ (k i:Nat) (s:S),i+k=l.length->Inv i s->iter step (st s i)=some (a9x f fin (l.drop i) s):=by
  intro k
  induction k with
  | zero =>
    intro i s hi hI;obtain rfl:i=l.length:=by omega
    rw [List.drop_length,a0w (he s hI)];rfl
  | succ k ih =>
    intro i s hi hI;have hlt:i<l.length:=by omega
    rw [List.drop_eq_getElem_cons hlt,a6G];rcases hs i l[i] s (zp1 hlt) hI with ⟨s',h1,h2,h3⟩ | ⟨x,h1,h3⟩
    ·rw [h1,a1l h3,ih (i+1) s' (by omega) h2];rfl
    rw [h1,a0w h3];rfl
 have:=key l.length 0 s0 (by omega) h0;simpa using this
theorem b2e (l:List α) (st:S->Nat->T) (f:S->α->S⊕X) (fin:S->X)
  (hs : ∀ i a s,l[i]?=some a->i<l.length->step (st s i)=some ((f s a).elim (fun s' => .inl (st s' (i+1))) .inr))
  (he : ∀ s,step (st s l.length)=some (.inr (fin s))) (s0:S):iter step (st s0 0)=some (a9x f fin l s0):=by
 refine b3K l st f fin (fun _ _=>True) (fun i a s ha _ => ?_) (fun s _=>he s) s0 trivial;have:=hs i a s ha (zp2.1 ha).1;cases hf:f s a with
 | inl s'=>rw [hf] at this;exact .inl ⟨s',rfl,trivial,this⟩
 | inr x=>rw [hf] at this;exact .inr ⟨x,rfl,this⟩
end
section
variable {α τ:Type}
theorem b8o {c:Cod τ} {f:α->D} {l:List α} {i:Nat} {a:α} (h:l[i]?=some a):gt Ar.std c (l.map f) (i:Int)=c.un (f a):=by
 simp [gt,h]
theorem c3u {c:Cod τ} {f:α->D} {l:List α} {i:Nat} {a:α} (h:l[i]?=some a):gc Ar.std c (l.map f) i=c.un (f a):=by
 simp [gc,h]
theorem b6W {l m:List D} (h:(l.length:Int)+m.length<4294967296):ap Ar.std l m=some (l++m):=by
 simp [ap,h]
theorem c0t {i n:Nat} (h:i<n) (hn:n<9223372036854775808):IntKind.i64.wrap ((i:Int)+1)=((i+1:Nat):Int):=by
 rw [a2W _ (by omega) (by omega)];omega
end
section
variable {τ:Type}
def ltF (f:τ->τ->Option Int) (x y:τ):Bool:=match f x y with
 | some r=>decide (r<0)
 | none=>false
structure CmpOk (f:τ->τ->Option Int) (xs:List τ):Prop where
 some : ∀ x∈xs,∀ y∈xs,∃ r,f x y=some r
 irr : ∀ x∈xs,ltF f x x=false
 tr : ∀ x∈xs,∀ y∈xs,∀ z∈xs,ltF f x y=true->ltF f y z=true->ltF f x z=true
 tot : ∀ x∈xs,∀ y∈xs,ltF f x y=false->ltF f y x=false->x=y
theorem CmpOk.ntr {f:τ->τ->Option Int} {xs:List τ} (h:CmpOk f xs) : ∀ x∈xs,∀ y∈xs,∀ z∈xs,ltF f x y=false->ltF f y z=false->ltF f x z=false:=by
 intro x hx y hy z hz h1 h2;cases h3:ltF f x z with
 | false=>rfl
 | true =>
   cases h4:ltF f y x with
   | false=>rw [h.tot x hx y hy h1 h4] at h3;rw [h3] at h2;cases h2
   | true=>rw [h.tr y hy x hx z hz h4 h3] at h2;cases h2
open Classical in
noncomputable def srt (c:Cod τ) (f:τ->τ->Option Int) (lo n:Int) (l:List D):Option (List D) :=
 if h:lo=0/\n=(l.length:Int)/\n<4611686018427387904 /\ ∃ xs:List τ,l=xs.map c.en/\CmpOk f xs then some ((h.2.2.2.choose.mergeSort fun x y => !ltF f y x).map c.en) else none
theorem Cod.inj (c:Cod τ) {x y:τ} (h:c.en x=c.en y):x=y:=by
 have:=c.ko x;rw [h,c.ko] at this;exact (Option.some.inj this).symm
theorem Cod.map_inj (c:Cod τ) : ∀ {xs ys:List τ},xs.map c.en=ys.map c.en->xs=ys
 | [],[],_=>rfl
 | [],_::_,h=>by simp at h
 | _::_,[],h=>by simp at h
 | x::xs,y::ys,h=>by
   simp at h;rw [c.inj h.1,Cod.map_inj c (xs:=xs) (ys:=ys) (by simpa using h.2)]
theorem c0u {c:Cod τ} {f:τ->τ->Option Int} {n:Int} {xs:List τ} (hn:n=(xs.length:Int)) (hs:n<4611686018427387904) (h:CmpOk f xs):srt c f 0 n (xs.map c.en)=some ((xs.mergeSort fun x y => !ltF f y x).map c.en):=by
 have hh:(0:Int)=0/\n=((xs.map c.en).length:Int)/\n<4611686018427387904 /\ ∃ ys:List τ,xs.map c.en=ys.map c.en/\CmpOk f ys:=⟨rfl,by simpa using hn,hs,xs,rfl,h⟩;unfold srt;rw [dif_pos hh];have:=hh.2.2.2.choose_spec.1;rw [<-c.map_inj this]
theorem c5t {c:Cod τ} {f:τ->τ->Option Int} {lo n:Int} {l l':List D} (h:srt c f lo n l=some l'):lo=0/\n=(l.length:Int)/\n<4611686018427387904 /\ ∃ xs:List τ,l=xs.map c.en/\CmpOk f xs/\l'=(xs.mergeSort fun x y => !ltF f y x).map c.en:=by
 unfold srt at h;split at h
 ·rename_i hh;have hc:=hh.2.2.2.choose_spec;generalize hh.2.2.2.choose=xs at h hc;exact ⟨hh.1,hh.2.1,hh.2.2.1,xs,hc.1,hc.2,(Option.some.inj h).symm⟩
 cases h
end
def enc {τ:Type} (c:Cod τ) (l:List τ):List D:=l.map c.en
section
variable {τ α:Type} {c:Cod τ} {l m:List τ}
@[simp] theorem c3v:enc c []=[]:=rfl
@[simp] theorem c2s (a:τ):enc c (a::l)=c.en a::enc c l:=rfl
theorem b2f:enc c (l++m)=enc c l++enc c m:=by simp [enc]
@[simp] theorem b9z:(enc c l).length=l.length:=by simp [enc]
theorem a9y (i:Nat):(enc c l)[i]?=l[i]?.map c.en:=by simp [enc]
theorem a0B {i:Nat} {a:τ} (h:l[i]?=some a):gt Ar.std c (enc c l) (i:Int)=some a:=by simp [gt,a9y,h,c.ko]
theorem c0v {i:Nat} {a:τ} (h:l[i]?=some a):gc Ar.std c (enc c l) i=some a:=by simp [gc,a9y,h,c.ko]
theorem a2q {g:α->τ} {l:List α} {i:Nat} {a:α} (h:l[i]?=some a):gt Ar.std c (enc c (l.map g)) (i:Int)=some (g a):=a0B (by simp [h])
@[simp] theorem a0K:Ar.std.len (enc c l)=(l.length:Int):=by simp
theorem a7r {i:Nat} (h:i<=l.length):sl Ar.std (enc c l) 0 (i:Int)=some (enc c (l.take i)):=b8n _ _ _ h
theorem a5V {a:τ} {d:D} (hd:c.en a=d) (h:l.length<4294967295):ap Ar.std (enc c l) [d]=some (enc c (l++[a])):=by
 subst hd;have:[c.en a]=[a].map c.en:=rfl;rw [this];exact b0x _ l [a] (by simp;omega)
theorem b6X (h:(l.length:Int)+m.length<4294967296):ap Ar.std (enc c l) (enc c m)=some (enc c (l++m)):=b0x _ l m h
theorem b8p (h:l.length<4294967296):ap Ar.std [] (enc c l)=some (enc c l):=by
 have:=b6X (c:=c) (l:=[]) (m:=l) (by simp;omega);simpa using this
end
section
variable {S X α:Type}
theorem a7s {step:Int->Option (Int⊕X)} (n:Nat) (p:Nat->Bool) (x y:X)
  (hs : ∀ i,i<n->step (i:Int)=some (bif p i then .inr x else .inl ((i+1:Nat):Int))) (he:step (n:Int)=some (.inr y)):iter step 0=some (bif (List.range n).any p then x else y):=by
 have key : ∀ k i,i+k=n->iter step (i:Int)=some (bif ((List.range' i k).any p) then x else y):=by
  intro k
  induction k with
  | zero=>intro i hi;obtain rfl:i=n:=by omega
          simpa using a0w he
  | succ k ih =>
    intro i hi;have h:=hs i (by omega);rw [List.range'_succ,List.any_cons];cases hp:p i with
    | true=>rw [hp] at h;simpa using a0w h
    | false=>rw [hp] at h;rw [a1l h,ih (i+1) (by omega)];rfl
 have:=key n 0 (by omega);rw [List.range_eq_range'];simpa using this
theorem b3L {l:List α} {q:α->Bool} {p:Nat->Bool} (h : ∀ i a,l[i]?=some a->p i=q a):(List.range l.length).any p=l.any q:=by
 rw [Bool.eq_iff_iff];simp only [List.any_eq_true,List.mem_range];constructor
 ·rintro ⟨i,hi,hp⟩;exact ⟨l[i],zp6 hi,by rw [<-h i _ (zp1 hi)];exact hp⟩
 rintro ⟨a,ha,hq⟩;obtain ⟨i,hi,rfl⟩:=List.getElem_of_mem ha;exact ⟨i,hi,by rw [h i _ (zp1 hi)];exact hq⟩
theorem a1T {step:Int->Option (Int⊕X)} (l:List α) (p:α->Bool) (x y:X)
  (hs : ∀ i a,l[i]?=some a->i<l.length->step (i:Int)=some (bif p a then .inr x else .inl ((i+1:Nat):Int))) (he:step (l.length:Int)=some (.inr y)):iter step 0=some (bif l.any p then x else y):=by
 have:=a7s (step:=step) l.length (fun i=>(l[i]?.map p).getD false) x y (fun i hi=>by
  have h:=zp1 hi;rw [h];exact hs i _ h hi) he
 rw [this,b3L (q:=p) (fun i a h=>by rw [h];rfl)]
theorem a2f {step:Int->Option (Int⊕X)} (l:List α) (p:α->Bool) (f:Nat->X) (y:X)
  (hs : ∀ i a,l[i]?=some a->i<l.length->step (i:Int)=some (bif p a then .inr (f i) else .inl ((i+1:Nat):Int))) (he:step (l.length:Int)=some (.inr y)):iter step 0=some ((l.findIdx? p).elim y f):=by
 have key : ∀ k i,i+k=l.length->iter step (i:Int)=some (((l.drop i).findIdx? p).elim y (fun j=>f (i+j))):=by
  intro k
  induction k with
  | zero=>intro i hi;obtain rfl:i=l.length:=by omega
          simpa using a0w he
  | succ k ih =>
    intro i hi;have hlt:i<l.length:=by omega
    have h:=hs i _ (zp1 hlt) hlt;rw [List.drop_eq_getElem_cons hlt,List.findIdx?_cons];cases hp:p l[i] with
    | true=>rw [hp] at h;simpa using a0w h
    | false =>
      rw [hp] at h;rw [a1l h,ih (i+1) (by omega)];cases hd:(l.drop (i+1)).findIdx? p with
      | none=>simp
      | some j=>simp;congr 1;omega
 have:=key l.length 0 (by omega);simpa using this
theorem a8D {T:Type} {step:T->Option (T⊕X)} (l:List α) (st:S->Nat->T) (f:S->α->S) (fin:S->X)
  (hs : ∀ i a s,l[i]?=some a->i<l.length->step (st s i)=some (.inl (st (f s a) (i+1)))) (he : ∀ s,step (st s l.length)=some (.inr (fin s))) (s0:S):iter step (st s0 0)=some (fin (l.foldl f s0)):=by
 rw [b2e l st (fun s a => .inl (f s a)) fin (fun i a s ha hi=>hs i a s ha hi) he s0,a8C]
end
theorem a2g {S T X:Type} {step:T->Option (T⊕X)} (n:Nat) (st:S->Nat->T) (R:Nat->S->Prop) (E:Nat->X->Prop) (fin:S->X)
  (hs : ∀ i s,i<n->R i s->(∃ s',R (i+1) s'/\step (st s i)=some (.inl (st s' (i+1)))) \/ ∃ x,E i x/\step (st s i)=some (.inr x))
  (he : ∀ s,R n s->step (st s n)=some (.inr (fin s))) (s0:S) (h0:R 0 s0):(∃ s,R n s/\iter step (st s0 0)=some (fin s)) \/ ∃ i x,i<n/\E i x/\iter step (st s0 0)=some x:=by
 have key : ∀ k i s,i+k=n->R i s->(∃ s',R n s'/\iter step (st s i)=some (fin s')) \/ ∃ j x,j<n/\E j x/\iter step (st s i)=some x:=by
  intro k
  induction k with
  | zero=>intro i s hi hR;obtain rfl:i=n:=by omega
          exact .inl ⟨s,hR,a0w (he s hR)⟩
  | succ k ih =>
    intro i s hi hR;rcases hs i s (by omega) hR with ⟨s',h1,h2⟩ | ⟨x,h1,h2⟩
    ·rw [a1l h2];exact ih (i+1) s' (by omega) h1
    exact .inr ⟨i,x,by omega,h1,a0w h2⟩
 exact key n 0 s0 (by omega) h0
theorem a0x {S T X:Type} {step:T->Option (T⊕X)} (n:Nat) (st:S->Nat->T) (R:Nat->S->Prop) (fin:S->X)
  (hs : ∀ i s,i<n->R i s -> ∃ s',R (i+1) s'/\step (st s i)=some (.inl (st s' (i+1))))
  (he : ∀ s,R n s->step (st s n)=some (.inr (fin s))) (s0:S) (h0:R 0 s0) : ∃ s,R n s/\iter step (st s0 0)=some (fin s):=by
 rcases a2g n st R (fun _ _=>False) fin (fun i s hi hR => .inl (hs i s hi hR)) he s0 h0 with h | ⟨_,_,_,h,_⟩
 ·exact h
 exact h.elim
theorem a8E {α β:Type} {l:List α} {f g:α->List β} (h : ∀ a∈l,f a=g a):l.flatMap f=l.flatMap g:=by
 induction l with
 | nil=>rfl
 | cons a l ih=>simp only [List.flatMap_cons,h a (by simp),ih (fun b hb=>h b (by simp [hb]))]
theorem b8q {τ:Type} {c:Cod τ} (l:List τ) (i:Nat) (a:τ):(enc c l).set i (c.en a)=enc c (l.set i a):=by
 simp [enc,List.map_set]
theorem a0g {α:Type} {l:List α} {i:Nat} {a:α} (h:l[i]?=some a):l.take (i+1)=l.take i++[a]:=by
 rw [List.take_add_one,h];rfl
theorem a2E {α S T X:Type} {step:T->Option (T⊕X)} (l:List α) (F:List α->S) (st:S->Nat->T) (fin:S->X)
  (hs : ∀ i a,l[i]?=some a->i<l.length->step (st (F (l.take i)) i)=some (.inl (st (F (l.take i++[a])) (i+1)))) (he:step (st (F l) l.length)=some (.inr (fin (F l)))) :
  iter step (st (F []) 0)=some (fin (F l)):=by
 obtain ⟨s,rfl,e⟩:=a0x l.length st (fun i s=>s=F (l.take i)) fin (fun i s hi hR=>by
  subst hR;have ha:=zp1 hi;exact ⟨_,by rw [a0g ha],hs i _ ha hi⟩) (fun s hR=>by subst hR;rw [List.take_length];exact he) (F []) rfl
 rw [List.take_length] at e;exact e
theorem a5g {i n:Nat} (h:i<n) (hn:n<9223372036854775808):IntKind.i64.wrap ((i:Int)+1)=((i+1:Nat):Int):=c0t h hn
theorem b5R {α:Type} (l:List α) (p:α->Bool):(0<=((l.findIdx? p).elim (-1:Int) (fun i=>(i:Int))))↔l.any p=true:=by
 cases h:l.findIdx? p with
 | none =>
   rw [List.findIdx?_eq_none_iff] at h;simp;intro x hx;simpa using h x hx
 | some i =>
   simp;obtain ⟨hi,hp,_⟩:=List.findIdx?_eq_some_iff_getElem.1 h;exact ⟨_,zp6 hi,by simpa using hp⟩
theorem b3M {α:Type} (l:List α) (p:α->Bool):Sum.elim (fun _:Unit=>some (-1:Int)) (fun v:Int=>some v) ((l.findIdx? p).elim (.inl ()) (fun i => .inr (i:Int)))=some ((l.findIdx? p).elim (-1) (fun i=>(i:Int))):=by
 cases l.findIdx? p <;> rfl
theorem b8r {α:Type} (l:List α) (p:α->Bool):decide (0<=((l.findIdx? p).elim (-1:Int) (fun i=>(i:Int))))=l.any p:=by
 rw [Bool.eq_iff_iff,decide_eq_true_iff];exact b5R l p
theorem b0y {α:Type} (l:List α) (p:α->Bool):(l.any fun a => !p a) = !l.all p:=by
 induction l with
 | nil=>rfl
 | cons a l ih=>simp [ih]
@[simp] theorem c2t (c:Bool):(bif c then true else false)=c:=by cases c <;> rfl
@[simp] theorem c2u (c:Bool):(bif c then false else true) = !c:=by cases c <;> rfl
@[simp] theorem c3w (a b:Bool):(bif a then b else false)=(a&&b):=by cases a <;> rfl
@[simp] theorem c4c (a b:Bool):(bif a then true else b)=(a||b):=by cases a <;> rfl
@[simp] theorem c2v (a b:Bool):(bif a then false else b)=(!a&&b):=by cases a <;> rfl
@[simp] theorem c2w (a b:Bool):(bif a then b else true)=(!a||b):=by cases a <;> rfl
@[simp] theorem c0w {α β γ:Type} (c:Bool) (a:α) (b:β) (f:α->γ) (g:β->γ):Sum.elim f g (bif c then .inl a else .inr b)=bif c then f a else g b:=by cases c <;> rfl
@[simp] theorem c0x {α β γ:Type} (c:Bool) (a:α) (b:β) (f:α->γ) (g:β->γ):Sum.elim f g (bif c then .inr b else .inl a)=bif c then g b else f a:=by cases c <;> rfl
end Go.Am
