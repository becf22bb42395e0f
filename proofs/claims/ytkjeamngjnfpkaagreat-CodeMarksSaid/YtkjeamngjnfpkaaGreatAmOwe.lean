/- Own text: AmOwe. -/
import Derived.Test.YtkjeamngjnfpkaaGreatAmRoll
set_option maxHeartbeats 1000000
set_option linter.unusedSimpArgs false
set_option linter.unusedSectionVars false
set_option linter.unusedVariables false
namespace Go.Am
open Go
theorem ACallO.emb {P:Program} {f:FuncId} {args args':List AV} {r r':AV} {H H' B N:List Obj} (hc:ACallO P f args H r H') (sel:List (Option Nat)) (Hb:List Obj) (hlast:selPos sel 0 (Hb.length-1)=some (H.length-1))
  (hH:renH (selPos sel 0) Hb sel 0=some H) (ha:renL (selPos sel 0) args'=some args) (hr:r.ren (fwdOf sel Hb.length)=some r')
  (hB:putB (fwdOf sel Hb.length) (selPos sel 0) H' Hb 0=some B) (hN:putN (fwdOf sel Hb.length) (H'.drop sel.length) sel.length Hb.length=some N)
  (hri:r'.inb (B++N).length=true) (hin:objsInb (B++N).length (B++N)=true):ACallO P f args' Hb r' (B++N):=by
 obtain ⟨h1,hrl,_,_,hle,h⟩:=hc
 obtain ⟨hl,hget⟩:=renH_get hH
 have hsel:=renH_sel hH
 obtain ⟨la,ga⟩:=renL_get ha
 obtain ⟨lB,gB⟩:=putB_get hB
 obtain ⟨lN,gN⟩:=putN_get hN
 refine ⟨h1,by rw [AV.ren_isLocal hr];exact hrl,hri,hin,by simp [lB],?_⟩
 intro n G w vs hvs hrep R hO
 have hnh:Hb.length=G.nh:=R.nh
 let fb:=selPos sel 0
 let fw:=fwdOf sel Hb.length
 let G1:Gh :=
  { K:=G.K
    O:=fun b=>match G.O b with
     | some (ℓ,q)=>match ℓ.ren fb with | some ℓ'=>some (ℓ',q) | none=>none
     | none=>none
    β:=fun
     | .o j=>match sel[j]? with | some (some i)=>G.β (.o i) | _=>G.β (.o j)
     | r=>G.β r
    nh:=sel.length }
 have hO1 : ∀ {b ℓ' q},G1.O b=some (ℓ',q) → ∃ ℓ,G.O b=some (ℓ,q)∧ℓ.ren fb=some ℓ':=by
  intro b ℓ' q h
  simp only [G1] at h
  split at h
  ·rename_i ℓ q' hO
   split at h
   ·rename_i ℓ2 h2;cases h;exact ⟨ℓ,hO,h2⟩
   ·cases h
  ·cases h
 have hrn:Rn fb G G1 w w:=by
  refine ⟨KLe.refl _,fun b ℓ ℓ' q h1 h2=>⟨by simp only [G1,h2,h1],rfl⟩,fun a a' h1 _ => ?_,fun _=>rfl⟩
  obtain ⟨_,h3⟩:=selPos_get h1
  rw [Nat.sub_zero] at h3
  exact ⟨by simp only [G1,h3],(List.getElem?_eq_some_iff.1 h3).1⟩
 have R1:RelH G1 H w:=by
  refine ⟨⟨fun b ℓ' q h => ?_⟩,hl,fun j ob' hob => ?_,R.kept,fun b ℓ' q h => ?_⟩
  ·obtain ⟨ℓ,h1,h2⟩:=hO1 h
   have:=R.sane.no b ℓ q h1
   cases ℓ <;> simp only [Loc.ren,Option.map_eq_some_iff,Option.some.injEq] at h2 <;> first | (obtain ⟨x,_,rfl⟩:=h2;simp [Loc.root];done) | (subst h2;exact this)
  ·rcases hget j ob' hob with rfl | ⟨i,ob,h1,h2,h3,h4⟩
   ·trivial
   ·rw [Nat.zero_add] at h3 h4
    exact (R.objs i ob h2).ren (by rw [←R.nh];exact (List.getElem?_eq_some_iff.1 h2).1) hrn h3 h4
  ·obtain ⟨ℓ,h1,_⟩:=hO1 h
   exact R.disj b ℓ q h1
 refine CallsIn.mono (h n G1 w vs (by omega) (fun i hi=>(hrep i (by omega)).ren hrn (ga i (by omega) hi) (by show (Loc.o (Hb.length-1)).ren (selPos sel 0)=_;simp only [Loc.ren,hlast];rfl)) R1 (fun b ℓ q hb => ?_)) ?_
 ·obtain ⟨ℓ0,h2,h3⟩:=hO1 hb
  obtain ⟨i,h4⟩:=hO b ℓ0 q h2
  cases ℓ0 <;> simp [Loc.root] at h4 <;> (simp only [Loc.ren,Option.map_eq_some_iff] at h3;obtain ⟨x,_,rfl⟩:=h3;exact ⟨x,rfl⟩)
 rintro e w' ⟨v,G3,rfl,hv,R3,hE⟩
 let Gf:Gh :=
  { K:=G3.K
    O:=fun b=>match G1.O b,G.O b with
     | none,some p=>some p
     | _,_=>match G3.O b with
       | some (ℓ,q)=>match ℓ.ren fw with | some ℓ'=>some (ℓ',q) | none=>none
       | none=>none
    β:=fun
     | .o j=>if j<Hb.length then G.β (.o j) else G3.β (.o (j-Hb.length+sel.length))
     | x=>G3.β x
    nh:=Hb.length+(H'.length-sel.length) }
 have hfor : ∀ b ℓ q,G.O b=some (ℓ,q)→ℓ.ren fb=none→G1.O b=none:=by
  intro b ℓ q h2 h3;simp only [G1,h2,h3]
 have hold : ∀ b ℓ q,G.O b=some (ℓ,q)→G1.O b=none→w'.heap[b]?=w.heap[b]?∧G3.O b=none:=fun b ℓ q h2 h3=>hE.others b (R.disj b ℓ q h2).1 h3
 have hO' : ∀ {b ℓ' q},Gf.O b=some (ℓ',q)→(G1.O b=none∧G.O b=some (ℓ',q))∨(∃ ℓ,G3.O b=some (ℓ,q)∧ℓ.ren fw=some ℓ'):=by
  intro b ℓ' q h
  simp only [Gf] at h
  split at h
  ·rename_i p h2 h3;cases h;exact .inl ⟨h2,h3⟩
  ·split at h
   ·rename_i ℓ q' hO
    split at h
    ·rename_i ℓ2 h2;cases h;exact .inr ⟨ℓ,hO,h2⟩
    ·cases h
   ·cases h
 have hrn3:Rn fw G3 Gf w' w':=by
  refine ⟨KLe.refl _,fun b ℓ ℓ' q h1 h2=>⟨?_,rfl⟩,fun a a' h1 h2 => ?_,fun _=>rfl⟩
  ·simp only [Gf]
   split
   ·rename_i p h3 h4;obtain ⟨ℓ0,q0⟩:=p;rw [(hold b ℓ0 q0 h4 h3).2] at h2;cases h2
   ·simp only [h2,h1]
  ·have hn3:=R3.nh
   simp only [fw,fwdOf] at h1
   split at h1
   ·rename_i hlt
    split at h1
    ·rename_i j hj
     cases h1
     obtain ⟨h5,_⟩:=hsel a a' hj
     refine ⟨?_,by simp only [Gf];omega⟩
     simp only [Gf]
     rw [if_pos h5,hE.β a (by omega)]
     simp only [G1,hj]
    ·cases h1
   ·cases h1
    refine ⟨?_,by simp only [Gf];omega⟩
    simp only [Gf]
    rw [if_neg (by omega)]
    congr 2;omega
 have hpr:Pres G Gf w w' (fun ℓ=>ℓ.ren fb=none):=by
  refine ⟨hE.K,fun b ℓ q hl h=>⟨by simp only [Gf,hfor b ℓ q h hl,h],(hold b ℓ q h (hfor b ℓ q h hl)).1⟩,fun a ha => ?_,by simp only [Gf];omega⟩
  simp only [Gf];rw [if_pos (by omega)]
 refine ⟨v,Gf,rfl,hv.ren hrn3 hr rfl,⟨⟨fun b ℓ' q h => ?_⟩,?_,fun j ob' hob => ?_,R3.kept,fun b ℓ' q h => ?_⟩,⟨hE.K,fun x v h => ?_,fun b hb h => ?_,hE.size,fun i hi => ?_,hE.io⟩⟩
 ·rcases hO' h with ⟨_,h⟩ | ⟨ℓ,h2,h3⟩
  ·exact R.sane.no b ℓ' q h
  ·have:=R3.sane.no b ℓ q h2
   cases ℓ <;> simp only [Loc.ren,Option.map_eq_some_iff,Option.some.injEq] at h3 <;> first | (obtain ⟨x,_,rfl⟩:=h3;simp [Loc.root];done) | (subst h3;exact this)
 ·simp only [Gf,List.length_append,lB,lN,List.length_drop]
 ·rcases Nat.lt_or_ge j B.length with hj | hj
  ·rw [List.getElem?_append_left hj] at hob
   rcases gB j ob' hob with ⟨h2,h3⟩ | ⟨i,o,h2,h3,h4⟩
   ·rw [Nat.zero_add] at h2
    have h2':fb j=none:=h2
    exact (R.objs j ob' h3).pres R.sane (by omega) hpr (by simp [Loc.ren,h2']) (fun _=>by simp [Loc.ren,h2'])
   ·rw [Nat.zero_add] at h2 h4
    obtain ⟨_,h5⟩:=selPos_get h2
    rw [Nat.sub_zero] at h5
    have hi:i<sel.length:=(List.getElem?_eq_some_iff.1 h5).1
    refine (R3.objs i o h3).ren (by rw [←R3.nh];exact (List.getElem?_eq_some_iff.1 h3).1) hrn3 ?_ h4
    simp only [fw,fwdOf,if_pos hi,h5]
  ·rw [List.getElem?_append_right hj] at hob
   obtain ⟨o,h2,h3⟩:=gN _ _ hob
   rw [List.getElem?_drop] at h2
   rw [lB] at h2 h3
   have hjj:Hb.length+(j-Hb.length)=j:=by omega
   rw [hjj] at h3
   refine (R3.objs _ o h2).ren (by rw [←R3.nh];exact (List.getElem?_eq_some_iff.1 h2).1) hrn3 ?_ h3
   simp only [fw,fwdOf]
   rw [if_neg (by omega)]
   congr 1;omega
 ·rcases hO' h with ⟨h2,h⟩ | ⟨ℓ,h2,h3⟩
  ·obtain ⟨h4,h5⟩:=R.disj b ℓ' q h
   refine ⟨Nat.lt_of_lt_of_le h4 hE.size,fun j hj => ?_⟩
   cases hK:Gf.K ⟨b,j,none⟩ with
   | none=>rfl
   | some x =>
     rcases hE.new ⟨b,j,none⟩ x hK with h6 | ⟨p,h6⟩ | h6
     ·rw [show G1.K=G.K from rfl,h5 j hj] at h6;cases h6
     ·rw [h2] at h6;cases h6
     ·simp at h6;omega
  ·exact R3.disj b ℓ q h2
 ·rcases hE.new x v h with h | ⟨p,h⟩ | h
  ·exact .inl h
  ·obtain ⟨ℓ,q⟩:=p;obtain ⟨ℓ0,h2,_⟩:=hO1 h;exact .inr (.inl ⟨_,h2⟩)
  ·exact .inr (.inr h)
 ·have h2:G1.O b=none:=by simp only [G1,h]
  obtain ⟨h3,h4⟩:=hE.others b hb h2
  exact ⟨h3,by simp only [Gf,h2,h,h4]⟩
 ·simp only [Gf];rw [if_pos (by omega)]
section
variable {P:Program} {T:Types} {m:Nat} {Q:Exit→St→Prop} {σ:St} {ops:Array Oper} {o:Oper} {l:List Oper}
theorem AOps.callN {f:FuncId} {args:List AV} {H':List Obj} {r:AV} {d j k:Nat} {x:Operand} {xs:Array Operand} {ts:Array TypeId} (hop:o.op = .call { callee := .value (.func f),args:=xs,argTypes:=ts }) (hw:wantA ops.toList σ o=some true) (hcall:callOf T σ o=some (f,args))
  (hj:xs[j]?=some x) (hx : ∀ a:Act,a.eval x = .slice none 0 0) (hin:objsInb (σ.heap.length+1) (σ.heap++[.dead])=true) (hargs:inbL (σ.heap.length+1) args=true) (hd:o.dst=some d) (hlt:d<σ.n) (hb:(σ.get d).isBox=false)
  (hfr:freeBut j 0 (args.set j (.own k []))=true) (hc:ACallO P f (args.set j (.own k [])) (σ.heap++[.dead]) r H') (h:AOps P m ops l Q { σ with env:=eset σ.env d r,heap:=H' }):AOps P m ops (o::l) Q σ:=by
 intro rr n G a w Q' hm' R hQ
 unfold wpListIn
 rw [if_pos (wantA_ok hw R)]
 obtain ⟨hcb,hrl,hri,hin',hHH,hcc⟩:=hc
 obtain ⟨hnd,hrun,hvs,hrep⟩:=callOf_vals hop hcall hcb R
 have hjl:j<args.length:=by
  have:=(Array.getElem?_eq_some_iff.1 hj).1
  simp at hvs;omega
 have hvj:(xs.map a.eval).getD j Go.undef = .slice none 0 0:=by
  obtain ⟨h1,h2⟩:=Array.getElem?_eq_some_iff.1 hj
  rw [←hx a]
  simp [Array.getD,h1,h2]
 let N:=σ.heap.length
 have hN:N=G.nh:=R.h.nh
 let G1:Gh:={ G with nh:=G.nh+1 }
 let σ1:St:={ σ with heap:=σ.heap++[.dead] }
 have hpr:Pres G G1 w w (fun _=>True):=⟨KLe.refl _,fun b ℓ f hl hO=>⟨hO,rfl⟩,fun _ _=>rfl,Nat.le_succ _⟩
 have R1:Rel G1 σ1 a w:=by
  refine ⟨⟨⟨fun b x f' h'=>R.h.sane.no b x f' h'⟩,by simp [σ1,G1];exact R.h.nh,fun i ob hob => ?_,R.h.kept,fun b ℓ f' h'=>R.h.disj b ℓ f' h'⟩,R.size,fun t => ?_,fun t r' off ht=>R.places t r' off ht,R.df⟩
  ·simp only [σ1] at hob
   rcases Nat.lt_or_ge i σ.heap.length with hi | hi
   ·rw [List.getElem?_append_left hi] at hob
    exact (R.h.objs i ob hob).pres R.h.sane (by rw [←R.h.nh];exact hi) hpr trivial (fun _=>trivial)
   ·rw [List.getElem?_append_right hi] at hob
    match hq:i-σ.heap.length,hob with
    | 0,hob=>simp at hob;subst hob;trivial
    | q+1,hob=>simp at hob
  ·exact (R.slots t).pres R.h.sane hpr trivial (fun _ _ _=>rfl) (fun _ _ _=>⟨rfl,by simp⟩)
 have hE1 : ∀ m,Ext m G w G1 w:=fun m=>⟨KLe.refl _,fun x v h => .inl h,fun b _ hO=>⟨rfl,hO⟩,Nat.le_refl _,fun _ _=>rfl,rfl,rfl,fun _ _=>rfl,rfl,Nat.le_refl _⟩
 have hlen:(σ.heap++[Obj.dead]).length=N+1:=by simp [N]
 have RH:RelH G1 ((σ.heap++[.dead])++[]) w:=by rw [List.append_nil];exact R1.h
 have hRh:=RH.handed (by rw [hlen];exact hin)
 refine ⟨fun _ _=>trivial,?_⟩
 rw [Oper.semAt_eq _ _ _ hnd,hrun]
 refine ⟨fun hh=>by simp [Wd] at hh,?_⟩
 have hsub:Sub G (G1.handed (σ.heap++[Obj.dead]).length) w w (fun ℓ=>ℓ = .no) (N+1) :=
  ⟨KLe.refl _,fun b ℓ f hl hO=>absurd (hl▸rfl) (R.h.sane.no b ℓ f hO),fun _ _=>rfl,by rw [hlen];exact Nat.le_refl _⟩
 refine CallsIn.mono (callsIn_wd (hcc (n-1) (G1.handed (σ.heap++[Obj.dead]).length) w (xs.map a.eval) (by rw [hvs];simp) (fun i hi => ?_) hRh (fun b ℓ f hO => ?_))) ?_
 ·rw [hlen,Nat.add_sub_cancel]
  simp only [List.length_set] at hi
  by_cases hij:i=j
  ·subst hij
   rw [List.getElem_set_self,hvj]
   exact .own _ _ _ _ (.nil _) (fun a n cap e=>by cases e)
  ·rw [List.getElem_set_ne (fun e=>hij e.symm)]
   have hfree:args[i].free=true:=by
    have:=(freeBut_get (i0:=0) hfr i (by simpa using hi)).2 (by omega)
    rwa [List.getElem_set_ne (fun e=>hij e.symm)] at this
   have:=((hrep i hi).sub R.h.sane hsub rfl (inbL_get hargs i hi) (AV.free_isLocal hfree)).anywhere hfree (.o N)
   rw [hlen] at this
   exact this
 ·have:=(handed_O hO).2
  cases ℓ <;> simp [objLoc] at this
  ·rename_i i;exact ⟨i,rfl⟩
  ·rename_i i j;exact ⟨i,rfl⟩
 ·rintro e w' ⟨v,G3,rfl,hv,R3,hE⟩
  obtain ⟨R',hext⟩:=R1.back (H:=σ.heap++[.dead]) (rest:=[]) (by simp [σ1]) (.inl rfl) hHH R3 hE hin' hv hrl hri hlt hb
  show wpListIn _ _ _ _ _ _ (a.put o.dst v) w'
  rw [hd]
  rw [List.append_nil] at R'
  refine h rr n _ _ w' Q' ?_ R' (fun e a' w'' hp=>hQ e a' w'' (hp.ext ((hE1 m).trans (hext m (by simp [G1];omega)))))
  have:(σ.heap++[Obj.dead]).length≤H'.length:=hHH
  simp [Gh.back];rw [hlen] at this;omega
theorem AOps.cN {A:Ar} (hT:TOk P T) (hA:A=Ar.std) (an:Ann) {f:FuncId} {args args':List AV} {rest:List Oper} {σ1:St} {H1 H':List Obj} {r:AV} {d:Nat} (j k:Nat) {x:Operand} {xs:Array Operand} {ts:Array TypeId} (h:runP A T an ops.toList l σ = .call f args o rest σ1)
  (hm:m≤σ.heap.length) (hc:ACallO P f args' H1 r H') (hop:o.op = .call { callee := .value (.func f),args:=xs,argTypes:=ts }) (hj:xs[j]?=some x) (hx : ∀ a:Act,a.eval x = .slice none 0 0) (ha:args.set j (.own k [])=args') (hh:σ1.heap++[.dead]=H1) (hin:objsInb H1.length H1=true) (hargs:inbL H1.length args=true)
  (hd:o.dst=some d) (hlt:d<σ1.n) (hb:(σ1.get d).isBox=false) (hfr:freeBut j 0 args'=true) (kk:AOps P m ops rest Q { σ1 with env:=eset σ1.env d r,heap:=H' }):AOps P m ops l Q σ:=by
 subst ha hh
 have hl:(σ1.heap++[Obj.dead]).length=σ1.heap.length+1:=by simp
 rw [hl] at hin hargs
 exact AOps.run (an:=an) hT l σ hm (by
  subst hA
  rw [h]
  intro hcall hw
  refine AOps.callN hop hw hcall hj hx hin hargs hd hlt hb hfr hc ?_
  intro r n G a w Q' hm' R hQ
  exact kk r n G a w Q' hm' R (fun e a' w' hp=>by
   obtain ⟨σ',G',R',hE,hm'',hq⟩:=hp
   exact hQ e a' w' ⟨σ',G',R',hE,hm'',fun _=>hq⟩))
end
end Go.Am
