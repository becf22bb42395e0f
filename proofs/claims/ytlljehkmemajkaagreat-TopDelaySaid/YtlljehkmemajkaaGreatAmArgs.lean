import Derived.Test.YtlljehkmemajkaaGreatAmLaw
import Derived.ProofKit
import Derived.OpenShut
import Derived.WideKeyArgs
set_option linter.unusedSimpArgs false
set_option linter.unusedSectionVars false
namespace Go.Am
open Go Go.RowKit
def a3M (W:World):Addr->Option Value:=fun x=>W.cell? x
def Gh.start (W:World):Gh:={ K:=a3M W,O:=fun _=>none,β:=fun _=>0,nh:=0 }
theorem b6C {P:Program} {f:FuncId} {avs:List AV} {r:AV} (hc:a0e P f avs [] r []) {W:World} {vs:Array Value} (hs:vs.size=avs.length)
  (hrep : ∀ (i:Nat) (hi:i<avs.length),RepV (Gh.start W) W .no avs[i] (vs.getD i Go.undef)) :
  Calls P f vs W fun e W'=>(∃ v G',e = .returned v/\RepV G' W' .ret r v)/\(W.keptBut W' (fun _=>False)/\(∀ a,a.block<W.heap.size->W'.frozen? a=W.frozen? a)/\W.heap.size<=W'.heap.size) /\ ∀ i,i<W.heap.size->W'.heap[i]?=W.heap[i]?:=by
 obtain ⟨_,_,_,_,_,h⟩:=hc;have RH:RelH (Gh.start W) [] W:=⟨⟨fun b ℓ f h=>by cases h⟩,rfl,fun i ob h=>by simp at h,fun x v h=>h,fun b ℓ f h=>by cases h⟩;have:=h 0 (Gh.start W) W vs hs hrep RH (fun b ℓ f h=>by cases h);have hw:CallsIn Fence.wide 0 P f vs W _:=this;refine (callsIn_wide.1 hw).mono ?_;rintro e W' ⟨v,G',rfl,hv,_,hE⟩;refine ⟨⟨v,G',rfl,hv⟩,⟨⟨hE.io.1,hE.io.2.1,fun i hi => ?_⟩,hE.io.2.2.1,hE.size⟩,fun i hi=>(hE.others i hi rfl).1⟩;have hb:=(hE.others i hi rfl).1;rw [hb];cases ho:W.heap[i]? with
 | none=>rfl
 | some o=>cases o <;> simp
end Go.Am

set_option linter.unusedVariables false
namespace Go.Am
open Go Go.RowKit Go.ChangeShapes
def a6x (W:World) (xs:List D) (cs:List Value):Prop :=
 xs.length=cs.length /\ ∀ (i:Nat) (hi:i<xs.length),RepD (a3M W) xs[i] (cs.getD i Go.undef)/\(cs.getD i Go.undef).oneCell'=true
theorem a6x.one {W:World} {x:D} {v:Value} (h:RepD (a3M W) x v) (h1:v.oneCell'=true):a6x W [x] [v]:=by
 refine ⟨rfl,fun i hi => ?_⟩;obtain rfl:i=0:=by simpa using hi
 exact ⟨h,h1⟩
theorem a6x.append {W:World} {xs ys:List D} {cs ds:List Value} (h:a6x W xs cs) (h':a6x W ys ds):a6x W (xs++ys) (cs++ds):=by
 refine ⟨by simp [h.1,h'.1],fun i hi => ?_⟩;by_cases hl:i<xs.length
 ·have:=h.2 i hl;rw [List.getElem_append_left hl];have hc:(cs++ds).getD i Go.undef=cs.getD i Go.undef:=by
   simp only [List.getD_eq_getElem?_getD];rw [zp7 (by rw [<-h.1];exact hl)]
  rw [hc];exact this
 have hl2:i-xs.length<ys.length:=by simp at hi;omega
 have:=h'.2 _ hl2;rw [List.getElem_append_right (by omega)];have hc:(cs++ds).getD i Go.undef=ds.getD (i-xs.length) Go.undef:=by
  simp only [List.getD_eq_getElem?_getD];rw [zp8 (by rw [<-h.1];omega),h.1]
 rw [hc];exact this
def Rd {α:Type} (P:Program) (t:TypeId) (enc:α->List D) (ok:α->Prop):Prop :=
 ∀ (H:Type) (en:TypeId×Value->H) (W:World) (fuel:Nat) (cs:List Value) (x:DataW H×List MemPlace),
   DataW.trod en P W 0 (fun _=>true) true fuel t cs=some x -> ∃ a,ok a/\a6x W (enc a) cs
theorem Rd.map {α β:Type} {P:Program} {t:TypeId} {enc:α->List D} {ok:α->Prop} (h:Rd P t enc ok) {enc':β->List D} {ok':β->Prop} (f:α->β)
  (he : ∀ a,ok a->enc' (f a)=enc a) (hok : ∀ a,ok a->ok' (f a)):Rd P t enc' ok':=by
 intro H en W fuel cs x hx;obtain ⟨a,ha,ht⟩:=h H en W fuel cs x hx;exact ⟨f a,hok a ha,by rw [he a ha];exact ht⟩
theorem Rd.bool {P:Program} {t:TypeId} (ht:P.underlying t=some .bool):Rd P t (fun b=>[D.bool b]) (fun _=>True):=by
 intro H en W fuel cs x hx;obtain ⟨b,rfl,_⟩:=DataW.trod_bool ht hx;exact ⟨b,trivial,.one (.bool b) rfl⟩
theorem Rd.int {P:Program} {t:TypeId} {k:IntKind} (ht:P.underlying t=some (.int k)):Rd P t (fun n=>[D.int k n]) (fun n=>(Lit.int k n).wf=true):=by
 intro H en W fuel cs x hx;obtain ⟨n,rfl,_,hw⟩:=DataW.trod_int ht hx;exact ⟨n,hw,.one (.int k n) rfl⟩
theorem Rd.str {P:Program} {t:TypeId} (ht:P.underlying t=some .string):Rd P t (fun s=>[D.str s]) (fun s=>s.size<=maxLen):=by
 intro H en W fuel cs x hx;obtain ⟨s,rfl,_,hw⟩:=DataW.trod_string ht hx;exact ⟨s,hw,.one (.str s) rfl⟩
theorem Rd.slice {α:Type} {P:Program} {t e:TypeId} (ht:P.underlying t=some (.slice e)) {enc:α->List D} {ok:α->Prop} (h:Rd P e enc ok)
  (pk:α->D) (hp : ∀ a,ok a->(pk a).cells=enc a) (hk0:0<P.cellsOf e) :
  Rd P t (fun l:List α=>[D.list (P.cellsOf e) (l.map pk)]) (fun l=>l.length<=maxLen /\ ∀ a∈l,ok a):=by
 intro H en W fuel cs x hx;rcases DataW.trod_slice ht hx with ⟨rfl,_⟩ | ⟨ad,len,cap,elems,rest,n,rfl,rfl,_,_,hlc,hcm,hel,hread,hspare,_⟩
 ·exact ⟨[],⟨Nat.zero_le _,fun a ha=>by simp at ha⟩,.one (.nil _) rfl⟩
 obtain ⟨hrl,hrr⟩:=hspare rfl;by_cases hc0:cap=0
 ·subst hc0;obtain rfl:len=0:=by omega
  exact ⟨[],⟨Nat.zero_le _,fun a ha=>by simp at ha⟩,.one (.none0 _ ad) rfl⟩
 have hspot:ad.spot=none:=by
  have key : ∀ (y:DataW H×List MemPlace),(W.cells? 0 (ad.add (0*P.cellsOf e)) (P.cellsOf e)).bind (DataW.trod en P W 0 (fun _=>true) true n e)=some y->ad.spot=none:=by
   intro y hy;rw [Option.bind_eq_some_iff] at hy;obtain ⟨cs',h1,_⟩:=hy;obtain ⟨_,hl,hg⟩:=World.cells?_some h1;have h0:=hg 0 hk0;have hlt:0<cs'.length:=by omega
   rw [zp1 hlt] at h0;have:=World.cell?_spot h0;simpa [Addr.add] using this
  by_cases hl0:len=0
  ·have:=hrr 0 (by omega);rw [zp1 (by omega)] at this;subst hl0;exact key _ this
  have:=hread 0 (by omega);rw [zp1 (by omega)] at this;exact key _ this
 obtain ⟨b,off,spot⟩:=ad;simp only at hspot;subst hspot;have each : ∀ i:Fin len,∃ a:α,∃ cs',ok a/\a6x W (enc a) cs'/\cs'.length=P.cellsOf e /\ ∀ q,q<P.cellsOf e->W.cell? ⟨b,off+(i*P.cellsOf e+q),none⟩=cs'[q]?:=by
  intro i;have hi:=hread i i.2;rw [zp1 (by omega),Option.bind_eq_some_iff] at hi;obtain ⟨cs',h1,h2⟩:=hi;obtain ⟨_,hl,hg⟩:=World.cells?_some h1;obtain ⟨a,ha,hta⟩:=h H en W n cs' _ h2;refine ⟨a,cs',ha,hta,hl,fun q hq => ?_⟩;have:=hg q hq;simpa only [Addr.add_none,Nat.add_assoc] using this
 obtain ⟨fa,hfa⟩:=Classical.axiomOfChoice each;obtain ⟨fc,hfc⟩:=Classical.axiomOfChoice hfa;refine ⟨List.ofFn fa,⟨by simp;omega,fun a ha => ?_⟩,.one ?_ rfl⟩
 ·obtain ⟨i,rfl⟩:=(List.mem_ofFn).1 ha;exact (hfc i).1
 have hu:a0k (P.cellsOf e) ((List.ofFn fa).map pk):=by
  intro y hy;obtain ⟨a,ha,rfl⟩:=List.mem_map.1 hy;obtain ⟨i,rfl⟩:=(List.mem_ofFn).1 ha;rw [hp _ (hfc i).1,(hfc i).2.1.1,(hfc i).2.2.1]
 have hlen:((List.ofFn fa).map pk).length=len:=by simp
 have hfl:=a0b hu;have cell : ∀ j (hj:j<(D.flat ((List.ofFn fa).map pk)).length),∃ v,W.cell? ⟨b,off+j,none⟩=some v/\RepD (a3M W) (D.flat ((List.ofFn fa).map pk))[j] v/\v.oneCell'=true:=by
  intro j hj;have hq:j%P.cellsOf e<P.cellsOf e:=Nat.mod_lt _ hk0;have hi:j / P.cellsOf e<len:=by
   rw [Nat.div_lt_iff_lt_mul hk0];rw [hfl,hlen] at hj;exact hj
  have hj':j / P.cellsOf e*P.cellsOf e+j%P.cellsOf e=j:=by rw [Nat.mul_comm];exact Nat.div_add_mod _ _
  obtain ⟨ha,hta,hcl,hcell⟩:=hfc ⟨_,hi⟩;have hge:((List.ofFn fa).map pk)[j / P.cellsOf e]?=some (pk (fa ⟨_,hi⟩)):=by simp [hi]
  have hfg:=a0H hu hge (j%P.cellsOf e) hq;rw [hj',hp _ ha] at hfg;have hqe:j%P.cellsOf e<(enc (fa ⟨_,hi⟩)).length:=by rw [hta.1,hcl];exact hq
  rw [zp1 hj,zp1 hqe] at hfg;have hr:=hta.2 _ hqe;have hc:=hcell _ hq;simp only [hj'] at hc;rw [zp1 (by rw [hcl];exact hq)] at hc;refine ⟨_,hc,?_,?_⟩
  ·rw [Option.some.inj hfg];have:=hr.1
   rwa [List.getD_eq_getElem?_getD,zp1 (by rw [hcl];exact hq)] at this
  have:=hr.2
  rwa [List.getD_eq_getElem?_getD,zp1 (by rw [hcl];exact hq)] at this
 have:=RepD.list (K:=a3M W) (P.cellsOf e) ((List.ofFn fa).map pk) b off cap (fun j=>(W.cell? ⟨b,off+j,none⟩).getD Go.undef) hu (by omega)
  (fun j hj=>by obtain ⟨v,hv,_⟩:=cell j hj;simp [a3M,hv])
  (fun j hj=>by obtain ⟨v,hv,_,h1⟩:=cell j hj;simp [hv,h1])
  (fun j hj=>by obtain ⟨v,hv,h2,_⟩:=cell j hj;simpa [hv] using h2)
 rwa [hlen] at this
def b2j {α:Type} (P:Program) (ts:List TypeId) (enc:α->List D) (ok:α->Prop):Prop :=
 ∀ (H:Type) (en:TypeId×Value->H) (W:World) (fuel:Nat) (cs:List Value),cs.length=(ts.map P.cellsOf).sum ->
   (∀ i t,ts[i]?=some t -> ∃ x,DataW.trod en P W 0 (fun _=>true) true fuel t ((cs.drop ((ts.take i).map P.cellsOf).sum).take (P.cellsOf t))=some x) ->
   ∃ a,ok a/\a6x W (enc a) cs
theorem b2j.nil {P:Program}:b2j P [] (fun _:Unit=>[]) (fun _=>True):=by
 intro H en W fuel cs hl _;obtain rfl:cs=[]:=List.length_eq_zero_iff.1 (by simpa using hl);exact ⟨(),trivial,rfl,fun i hi=>by simp at hi⟩
theorem b2j.cons {α β:Type} {P:Program} {t:TypeId} {ts:List TypeId} {e1:α->List D} {o1:α->Prop} {e2:β->List D} {o2:β->Prop}
  (h:Rd P t e1 o1) (hs:b2j P ts e2 o2):b2j P (t::ts) (fun p:α×β=>e1 p.1++e2 p.2) (fun p=>o1 p.1/\o2 p.2):=by
 intro H en W fuel cs hl hr;simp only [List.map_cons,List.sum_cons] at hl;obtain ⟨x,hx⟩:=hr 0 t rfl;simp only [List.take_zero,List.map_nil,List.sum_nil,List.drop_zero] at hx;obtain ⟨a,ha,hta⟩:=h H en W fuel _ x hx;obtain ⟨b,hb,htb⟩:=hs H en W fuel (cs.drop (P.cellsOf t)) (by simp;omega) (by
  intro i u hi;obtain ⟨y,hy⟩:=hr (i+1) u (by simpa using hi);refine ⟨y,?_⟩;simpa [List.drop_drop] using hy)
 refine ⟨(a,b),⟨ha,hb⟩,?_⟩;have:=hta.append htb
 rwa [List.take_append_drop] at this
theorem Rd.struct {α:Type} {P:Program} {t:TypeId} {fs:Array Field} (ht:P.underlying t=some (.struct fs)) {ts:List TypeId} {enc:α->List D} {ok:α->Prop}
  (h:b2j P ts enc ok) (hts:fs.toList.map (·.type)=ts) (hof : ∀ i f,fs[i]?=some f->f.offset=((ts.take i).map P.cellsOf).sum) (hsz:P.cellsOf t=(ts.map P.cellsOf).sum) :
  Rd P t enc ok:=by
 intro H en W fuel cs x hx;obtain ⟨xs,n,rfl,_,hcl,hxl,hr⟩:=DataW.trod_struct ht hx;refine h H en W n cs (by rw [hcl,hsz]) fun i u hi => ?_;have hf : ∃ f,fs[i]?=some f/\f.type=u:=by
  rw [<-hts] at hi;simpa using hi
 obtain ⟨f,hf,rfl⟩:=hf;have:=hr i f hf;rw [hof i f hf] at this;have hlt:i<fs.size:=by
  rcases Nat.lt_or_ge i fs.size with h | h
  ·exact h
  rw [Array.getElem?_eq_none h] at hf;cases hf
 rw [zp1 (by omega)] at this;exact ⟨_,this⟩
theorem Rd.array {α:Type} {P:Program} {t e:TypeId} {n:Nat} (ht:P.underlying t=some (.array n e)) {enc:α->List D} {ok:α->Prop} (h:Rd P e enc ok) (hsz:P.cellsOf t=n*P.cellsOf e) :
  Rd P t (fun l:List α=>l.flatMap enc) (fun l=>l.length=n /\ ∀ a∈l,ok a):=by
 intro H en W fuel cs x hx;obtain ⟨xs,m,rfl,_,hcl,hxl,hr⟩:=DataW.trod_array ht hx;rw [hsz] at hcl;have key : ∀ (n:Nat) (cs:List Value),cs.length=n*P.cellsOf e->(∀ i,i<n -> ∃ y,DataW.trod en P W 0 (fun _=>true) true m e ((cs.drop (i*P.cellsOf e)).take (P.cellsOf e))=some y) ->
   ∃ l:List α,(l.length=n /\ ∀ a∈l,ok a)/\a6x W (l.flatMap enc) cs:=by
  intro n
  induction n with
  | zero =>
    intro cs hl _;obtain rfl:cs=[]:=List.length_eq_zero_iff.1 (by simpa using hl);exact ⟨[],⟨rfl,fun a ha=>by simp at ha⟩,rfl,fun i hi=>by simp at hi⟩
  | succ n ih =>
    intro cs hl hr;obtain ⟨y,hy⟩:=hr 0 (by omega);simp only [Nat.zero_mul,List.drop_zero] at hy;obtain ⟨a,ha,hta⟩:=h H en W m _ y hy;have hl':(cs.drop (P.cellsOf e)).length=n*P.cellsOf e:=by
     rw [List.length_drop,hl,Nat.succ_mul];omega
    obtain ⟨l,⟨hl1,hl2⟩,htl⟩:=ih (cs.drop (P.cellsOf e)) hl' (fun i hi=>by
     obtain ⟨y,hy⟩:=hr (i+1) (by omega);refine ⟨y,?_⟩;rw [List.drop_drop,Nat.add_comm,<-Nat.succ_mul];exact hy)
    refine ⟨a::l,⟨by simp [hl1],?_⟩,?_⟩
    ·intro b hb;rcases List.mem_cons.1 hb with rfl | hb
     ·exact ha
     exact hl2 b hb
    have:=hta.append htl
    rwa [List.take_append_drop] at this
 refine key n cs hcl fun i hi => ?_;have:=hr i hi;rw [zp1 (by omega)] at this;exact ⟨_,this⟩
theorem Rd.arg {α:Type} {P:Program} {t:TypeId} {enc:α->List D} {ok:α->Prop} (h:Rd P t enc ok) {pk:α->D} (hp : ∀ a,enc a=[pk a]) {r:Reach} {b0:Nat}
  {H:Type} {en:TypeId×Value->H} {W:World} {v:Value} {d:DataW H} {ps:List MemPlace} (hne:v.oneCell'=true)
  (ht:DataW.Trod en P W 0 (fun _=>true) true t v d ps) : ∃ a,ok a/\RepV (Gh.start W) W .no (.d (pk a)) v:=by
 obtain ⟨fuel,hf⟩:=ht;have hc:v.cells.toList=[v]:=by cases v <;> first | rfl | simp [Value.oneCell'] at hne
 rw [hc] at hf;obtain ⟨a,ha,hta⟩:=h H en W fuel _ _ hf;rw [hp a] at hta;have:=hta.2 0 (by simp);exact ⟨a,ha,.d _ _ _ (by simpa [Gh.start] using this.1)⟩
theorem a3S {P:Program} {w:World} {r:Reach} {b0:Nat} {t:TypeId} {v:Value} (h:Value.okWide P w r b0 t v)
  (hs : ∀ fs,P.underlying t≠some (.struct fs)) (ha : ∀ n e,P.underlying t≠some (.array n e)):v.oneCell'=true:=by
 unfold Value.okWide at h;split at h
 ·rename_i fs h1;exact absurd h1 (hs _)
 ·rename_i n e h1;exact absurd h1 (ha _ _)
 cases v <;> first | rfl | (exfalso;revert h;unfold Cell.okWide Cell.ok;split <;> simp_all <;> (try split) <;> simp_all)
theorem b4P {W W':World} (h : ∀ i,i<W.heap.size->W'.heap[i]?=W.heap[i]?) {p:MemPlace} (hb:p.block<W.heap.size):W.sameAt W' p:=by
 cases p with
 | cell b off=>unfold World.sameAt World.cell?;simp only;rw [h b hb]
 | map b=>exact h b hb
theorem a7I {H:Type} {enc:TypeId×Value->H} {P:Program} (hl:laidOutB P=true) {W W':World} (h : ∀ i,i<W.heap.size->W'.heap[i]?=W.heap[i]?) {sp:Nat->Bool} :
  ∀ {ts:List TypeId} {vs:List Value} {ds:List (DataW H)} {ps:List MemPlace},(∀ t∈ts,P.readableRec t=true/\t<P.types.size) ->
    DataW.TrodAll enc P W 0 (fun _=>true) true ts vs ds ps->(∀ p∈ps,p.block<W.heap.size)->(∀ p∈ps,sp p.block=true)->DataW.TrodAll enc P W' 0 sp true ts vs ds ps:=by
 intro ts
 induction ts with
 | nil =>
   intro vs ds ps _ ht _ _;obtain ⟨rfl,rfl,rfl⟩:=trodAll_nil ht;exact trodAll_mk0
 | cons t ts ih =>
   intro vs ds ps hr ht hlt hsp;obtain ⟨v,vs',d,ds',p,q,rfl,rfl,rfl,h0,h1⟩:=trodAll_cons ht;have ht:=hr t (by simp);refine trodAll_cons_mk (Go.WideElems.Trod_stays hl ht.1 ht.2 h0 (fun x hx=>b4P h (hlt x (by simp [hx]))) (fun x hx=>hsp x (by simp [hx]))) ?_;exact ih (fun t ht=>hr t (by simp [ht])) h1 (fun x hx=>hlt x (by simp [hx])) (fun x hx=>hsp x (by simp [hx]))
theorem post_of_same' {H:Type} {enc:TypeId×Value->H} {P:Program} {f:Func} {s:ChangeSpec} {apart fresh handsOn again:Bool} {W W':World} {args:Array Value} {v:Value} {ds gs:List (DataW H)} {before pa pv:List MemPlace}
  (hW:DataW.Whole enc P f.params.toList s.vars apart W args.toList ds gs before)
  (hres : ∀ (b:Nat) (sp:Nat->Bool) (hd:Bool),DataW.TrodAll enc P W' b sp hd f.resultTypes.toList (v.resultList f.resultTypes.size) (s.fn H (ds++gs)).results [])
  (hargs : ∀ sp:Nat->Bool,(∀ p∈before,sp p.block=true)->DataW.TrodAll enc P W' 0 sp true f.params.toList args.toList (s.fn H (ds++gs)).args pa)
  (hvars : ∀ sp:Nat->Bool,(∀ p∈before,sp p.block=true)->DataW.TrodVars enc P W' sp s.vars (s.fn H (ds++gs)).vars pv)
  (hps:before=pa++pv) (hk:W.keptBut W' (· ∈ before)) (hfz : ∀ a,a.block<W.heap.size->W'.frozen? a=W.frozen? a)
  (hok : ∀ (j:Nat) (t:TypeId) (r:Value),f.resultTypes[j]?=some t->(v.resultList f.resultTypes.size)[j]?=some r->Value.okWide P W' .any 0 t r) :
  s.post enc P f apart fresh handsOn again W args v W':=by
 have hold : ∀ p∈before,(fun b=>decide (b<W.heap.size)) p.block=true:=fun p hp=>by simpa using hW.lt p hp
 have hlt:=hW.lt;refine ⟨ds,gs,before,[],pa,pv,hW,hres _ _ _,hargs _ hold,hvars _ hold,World.keptBut_mono (fun p hp=>⟨hp,?_⟩) hk,fun _ => ?_⟩
 ·rw [hps,List.mem_append] at hp;exact Or.inr hp
 obtain ⟨_,_,_,_,_,hz,hn⟩:=hW;refine ⟨hok,_,_,([]++pa)++pv,⟨[]++pa,pv,trodAll_append (hargs _ (fun _ _=>rfl)) (hres _ _ _),hvars _ (fun _ _=>rfl),rfl,?_,?_⟩,?_⟩
 ·intro b off hp;have hp':MemPlace.cell b off∈before:=by rw [hps];simpa using hp
  rw [hfz _ (hlt _ hp')];exact hz b off hp'
 ·intro ha;have:=hn ha;rw [hps] at this;simpa using this
 intro p hp _;rw [hps];simpa using hp
theorem row_step {P:Program} {f:FuncId} {fn:Func} {s:ChangeSpec} {apart fresh handsOn again:Bool} {tb:TypeId}
  (hl:laidOutB P=true) (hts : ∀ t∈fn.params.toList,P.readableRec t=true/\t<P.types.size) (hrt:fn.resultTypes = #[tb]) (htb:P.underlying tb=some .bool) (hv:s.vars=[])
  {H:Type} {enc:TypeId×Value->H} {W:World} {args:Array Value} {ds gs:List (DataW H)} {before:List MemPlace}
  (hW:DataW.Whole enc P fn.params.toList s.vars apart W args.toList ds gs before)
  (hfn:s.fn H ds={ results:=[.lit (.bool true)],args:=ds })
  {avs:List AV} (hc:a0e P f avs [] (.d (.bool true)) []) (hs:args.size=avs.length)
  (hrep : ∀ (i:Nat) (hi:i<avs.length),RepV (Gh.start W) W .no avs[i] (args.getD i Go.undef)) :
  Calls P f args W fun e W' => ∃ v,e = .returned v/\s.post enc P fn apart fresh handsOn again W args v W':=by
 have hW':=hW;obtain ⟨p,q,hA,hV,rfl,hfz,hnd⟩:=hW;rw [hv] at hV;obtain ⟨rfl,rfl⟩:=trodVars_none hV;refine (b6C hc hs hrep).mono ?_;rintro e W' ⟨⟨v,G',rfl,hrv⟩,hg,hheap⟩;have hvb:v = .bool true:=by
  cases hrv with
  | d _ _ _ h=>cases h;rfl
 subst hvb;have hlt:=hA.lt;simp only [List.append_nil] at hW';have hfn':s.fn H (ds++[])={ results:=[.lit (.bool true)],args:=ds }:=by rw [List.append_nil];exact hfn
 refine ⟨_,rfl,post_of_same' (pa:=p) (pv:=[]) hW' ?_ ?_ ?_ (by simp) (World.keptBut_mono (fun _ h=>h.elim) hg.1) hg.2.1 (ok_one hrt rfl (okWide_bool_mk htb true))⟩
 ·intro _ _ _;rw [hfn',hrt];exact trodAll_cons_mk (shut_bool htb _) trodAll_mk0
 ·intro sp hsp;rw [hfn'];exact a7I hl hheap hts hA hlt hsp
 intro _ _;rw [hfn',hv]
 rfl
end Go.Am
