/- Own text: E1H. -/
import Derived.Test.YtalfdjihejohoaaD1vc
import Derived.Test.YtalfdjihejohoaaD1ga
import Derived.Test.YtalfdjihejohoaaAmLaw
set_option maxRecDepth 100000
set_option linter.unusedVariables false
set_option linter.unusedSimpArgs false
set_option linter.unusedSectionVars false
namespace Go.Am
open Go Go.Proofs
noncomputable def dec {α:Type} (f:α->D) (ok:List α->Prop) (l:List D):Option (List α) :=
 open Classical in if h : ∃ x,ok x/\l=x.map f then some h.choose else none
theorem decI {α:Type} {f:α->D} {ok:List α->Prop} {l:List D} {x:List α} (h:dec f ok l=some x):ok x/\l=x.map f:=by
 unfold dec at h
 split at h
 ·rename_i hx;cases h;exact hx.choose_spec
 ·cases h
theorem map_inj' {α:Type} {f:α->D} (hf : ∀ a b,f a=f b->a=b) : ∀ {x y:List α},x.map f=y.map f->x=y
 | [],[],_=>rfl
 | [],_::_,h=>by simp at h
 | _::_,[],h=>by simp at h
 | a::x,b::y,h=>by
   simp only [List.map_cons,List.cons.injEq] at h
   rw [hf a b h.1,map_inj' hf h.2]
theorem dec_eq {α:Type} {f:α->D} {ok:List α->Prop} (hf : ∀ a b,f a=f b->a=b) {x:List α} (hx:ok x):dec f ok (x.map f)=some x:=by
 unfold dec
 have h : ∃ y,ok y/\x.map f=y.map f:=⟨x,hx,rfl⟩
 rw [dif_pos h]
 exact congrArg some (map_inj' hf h.choose_spec.2).symm
theorem dAcc_inj' (a b:Acc) (h:dAcc a=dAcc b):a=b:=by
 obtain ⟨a1,a2⟩:=a;obtain ⟨b1,b2⟩:=b
 simp [dAcc,I] at h;simp [h]
theorem dAccs_inj (a b:List Acc) (h:dAccs a=dAccs b):a=b:=by
 simp only [dAccs,D.list.injEq,true_and] at h
 exact map_inj' dAcc_inj' h
theorem I_inj (a b:Int) (h:I a=I b):a=b:=by simpa [I] using h
theorem dFen_inj (a b:Fen) (h:dFen a=dFen b):a=b:=by
 obtain ⟨a1,a2⟩:=a;obtain ⟨b1,b2⟩:=b
 simp [dFen,I] at h;simp [h]
theorem dSta_inj' (a b:Sta) (h:dSta a=dSta b):a=b:=by
 obtain ⟨a1,a2,a3⟩:=a;obtain ⟨b1,b2,b3⟩:=b
 simp [dSta,I] at h;simp [h]
theorem dRow_inj (a b:List Int) (h:dRow a=dRow b):a=b:=by
 simp only [dRow,D.list.injEq,true_and] at h
 exact map_inj' I_inj h
def LenOk {α:Type} (n:Nat) (l:List α):Prop:=l.length<=n
def CostOk (c:List (List Int)):Prop:=c.length<=1000000000 /\ ∀ r∈c,r.length<=9223372036854775807
noncomputable abbrev ofX (l:List D):Option (List (List Acc)):=dec dAccs Big l
noncomputable abbrev ofS (l:List D):Option (List (List Acc)):=dec dAccs (fun x=>Small x/\(stations x).length<=4000000000) l
noncomputable abbrev ofF (l:List D):Option (List Fen):=dec dFen (LenOk 1000000000) l
noncomputable abbrev ofC (l:List D):Option (List (List Int)):=dec dRow CostOk l
noncomputable def E13 (A:Ar) (x1:List D):Option Bool:=(ofX x1).map long
noncomputable def E14 (A:Ar) (x1:List D):Option Bool:=(ofX x1).map valid
noncomputable def E20 (A:Ar) (x1:List D):Option Bool:=(ofX x1).map valid
noncomputable def E15 (A:Ar):Option Bool:=some true
noncomputable def E93 (A:Ar) (x1 x2:List D):Option Bool:=(ofS x1).bind fun x=>(ofC x2).map fun c=>pricedB x c
noncomputable def E77 (A:Ar) (x1:List D):Option (List D):=(ofS x1).map fun x=>(neededL x).map dSta
noncomputable def E104 (A:Ar) (x1:List D):Option (List D):=(ofS x1).map fun x=>(fencesL x).map dFen
noncomputable def E85 (A:Ar) (x1 x2:List D):Option (List D×Int):=(ofX x1).bind fun x=>(ofF x2).map fun l=>((fencedT x l).1.map dFen,(fencedT x l).2)
noncomputable def E91 (A:Ar) (x1 x2:List D):Option Bool:=(ofF x1).bind fun l=>(dec dSta (LenOk 1000000000) x2).map fun p=>enoughF l p
open Classical in
noncomputable def E94 (A:Ar) (x1 x2:List D):Option Int:=(ofC x1).bind fun c=>(ofF x2).bind fun l=>if (∀ r∈c,∀ n∈r,0<=n/\n<=9) /\ ∀ f∈l,inCost c f then some (costF c l) else none
section
variable {A:Ar} (hA:A=Ar.std) {x1 x2:List D}
include hA
theorem E13w {v16:Bool} (h:E13 A x1=some v16):ACall Try.prog 13 [(.d (.list 1 x1))] [] (.d (.bool v16)) []:=by
 obtain ⟨x,hx,rfl⟩:=Option.map_eq_some_iff.1 h
 obtain ⟨hb,rfl⟩:=decI hx
 exact long_ok x hb
theorem E14w {v16:Bool} (h:E14 A x1=some v16):ACall Try.prog 14 [(.d (.list 1 x1))] [] (.d (.bool v16)) []:=by
 obtain ⟨x,hx,rfl⟩:=Option.map_eq_some_iff.1 h
 obtain ⟨hb,rfl⟩:=decI hx
 exact validR_ok x hb
theorem E20w {v16:Bool} (h:E20 A x1=some v16):ACall Try.prog 20 [(.d (.list 1 x1))] [] (.d (.bool v16)) []:=by
 obtain ⟨x,hx,rfl⟩:=Option.map_eq_some_iff.1 h
 obtain ⟨hb,rfl⟩:=decI hx
 exact valid_ok x hb
theorem E15w {v7:Bool} (h:E15 A=some v7):ACall Try.prog 15 [] [] (.d (.bool v7)) []:=by
 cases h;exact awake_ok
theorem E93w {v37:Bool} (h:E93 A x1 x2=some v37):ACall Try.prog 93 [(.d (.list 1 x1)),(.d (.list 1 x2))] [] (.d (.bool v37)) []:=by
 obtain ⟨x,hx,h⟩:=Option.bind_eq_some_iff.1 h
 obtain ⟨c,hc,rfl⟩:=Option.map_eq_some_iff.1 h
 obtain ⟨hb,rfl⟩:=decI hx
 obtain ⟨hk,rfl⟩:=decI hc
 exact priced_ok x c hb.1 hk.1 hk.2
theorem E77w {v8:List D} (h:E77 A x1=some v8):ACall Try.prog 77 [(.d (.list 1 x1))] [] (.d (.list 3 v8)) []:=by
 obtain ⟨x,hx,rfl⟩:=Option.map_eq_some_iff.1 h
 obtain ⟨hb,rfl⟩:=decI hx
 exact needed_ok x hb.1 hb.2
theorem E104w {v44:List D} (h:E104 A x1=some v44):ACall Try.prog 104 [(.d (.list 1 x1))] [] (.own 2 v44) []:=by
 obtain ⟨x,hx,rfl⟩:=Option.map_eq_some_iff.1 h
 obtain ⟨hb,rfl⟩:=decI hx
 exact fencesL_ok x hb.1
theorem E85w {v10:List D} {v11:Int} (h:E85 A x1 x2=some (v10,v11)):ACall Try.prog 85 [(.d (.list 1 x1)),(.d (.list 2 x2))] [] (.tuple [(.d (.list 2 v10)),(.d (.int .i64 v11))]) []:=by
 obtain ⟨x,hx,h⟩:=Option.bind_eq_some_iff.1 h
 obtain ⟨l,hl,e⟩:=Option.map_eq_some_iff.1 h
 obtain ⟨hb,rfl⟩:=decI hx
 obtain ⟨hc,rfl⟩:=decI hl
 cases e
 exact fenced_ok x l hb hc
theorem E91w {v5:Bool} (h:E91 A x1 x2=some v5):ACall Try.prog 91 [(.d (.list 2 x1)),(.d (.list 3 x2))] [] (.d (.bool v5)) []:=by
 obtain ⟨l,hl,h⟩:=Option.bind_eq_some_iff.1 h
 obtain ⟨p,hp,rfl⟩:=Option.map_eq_some_iff.1 h
 obtain ⟨hb,rfl⟩:=decI hl
 obtain ⟨hc,rfl⟩:=decI hp
 exact enough_ok l p hb hc
theorem E94w {v35:Int} (h:E94 A x1 x2=some v35):ACall Try.prog 94 [(.d (.list 1 x1)),(.d (.list 2 x2))] [] (.d (.int .i64 v35)) []:=by
 obtain ⟨c,hc,h1⟩:=Option.bind_eq_some_iff.1 h
 obtain ⟨l,hl,h2⟩:=Option.bind_eq_some_iff.1 h1
 clear h h1
 obtain ⟨hb,rfl⟩:=decI hc
 obtain ⟨hk,rfl⟩:=decI hl
 split at h2
 ·rename_i h0;cases h2;exact cost_ok c l h0.1 hk h0.2
 ·cases h2
end
end Go.Am
