import Derived.Test.YtlljehkmemajkaaAmSteps
set_option linter.unusedSimpArgs false
set_option linter.unusedVariables false
namespace Go.Am
open Go
def b3s (P:Program) (m:Nat) (ops:Array Oper) (i:Nat) (σ σ':St):Prop :=
 m<=σ'.heap.length /\ ∀ (r:Option Nat) (n:Nat) (G:Gh) (a:Act) (w:World) (Q':Exit->Act->World->Prop) (K:Act->World->Prop),Rel G σ a w ->
  (∀ G' a' w',Rel G' σ' a' w'->Ext m G w G' w'->K a' w')->wpOpIn (Wd r) n P ops Q' i K a w
def a9t (P:Program) (m:Nat) (ops:Array Oper) (Q:St->Prop):Nat->Array Bool->St->Prop
 | 0,listed,σ=>Region.ready .any ops listed=[]/\Q σ
 | f+1,listed,σ=>(Region.ready .any ops listed=[]/\Q σ)\/(Region.ready .any ops listed≠[] /\ ∀ i∈Region.ready .any ops listed,∃ σ',b3s P m ops i σ σ'/\a9t P m ops Q f (listed.setIfInBounds i true) σ')
theorem AWp.regionEach {P:Program} {m:Nat} {ops:Array Oper} {id:Nat} {Q:Exit->St->Prop} {σ:St} (hmix:P.follows .mixedOrders=true) (hm0:m<=σ.heap.length)
  (h:a9t P m ops (Q .normal) ops.size (Array.replicate ops.size false) σ):AWp P m (.region id ops true) Q σ:=by
 intro r n G a w hm R;refine wpIn_region_any hmix ?_;have key : ∀ (fuel:Nat) (listed:Array Bool) (σ1:St) (G1:Gh) (a:Act) (w1:World),a9t P m ops (Q .normal) fuel listed σ1->Rel G1 σ1 a w1->Ext m G w G1 w1->m<=σ1.heap.length ->
   wpAnyIn (Wd r) n P .any ops (Post m G w Q) fuel listed a w1:=by
  intro fuel
  induction fuel with
  | zero =>
    intro listed σ1 G1 a w1 hA R1 hE hmh;obtain ⟨h1,h2⟩:=hA;exact ⟨h1,σ1,G1,R1,hE,by rw [<-R1.h.nh];exact hmh,h2⟩
  | succ fuel ih =>
    intro listed σ1 G1 a w1 hA R1 hE hmh;rcases hA with ⟨h1,h2⟩ | ⟨h1,h2⟩
    ·exact ⟨fun _=>⟨σ1,G1,R1,hE,by rw [<-R1.h.nh];exact hmh,h2⟩,fun i hi=>by rw [h1] at hi;cases hi⟩
    refine ⟨fun hre=>absurd hre h1,fun i hi => ?_⟩;obtain ⟨σ',⟨hm',hs⟩,hA'⟩:=h2 i hi;exact hs r n G1 a w1 _ _ R1 fun G' a' w' R' hE'=>ih _ σ' G' a' w' hA' R' (hE.trans hE') hm'
 exact key ops.size _ σ G a _ h (R.drew rfl) (Ext.drew (w1:=_) rfl rfl rfl) hm0
section
variable {P:Program} {T:a0j} {m:Nat} {ops:Array Oper} {an:Ann} {σ:St} {i:Nat} {o:Oper}
theorem b3s.op (hT:TOk P T) (ho:ops[i]?=some o) {u:Upd} (hw:a1Q ops.toList σ o=some true) (he:b1i Ar.std T an ops.toList σ o=some u) (hm:m<=σ.heap.length) :
  b3s P m ops i σ (Rec.app σ { sets:=u.sets,heap:=u.heap,rd:=u.rd,hr:=u.hr,ho:=u.ho,low:=[] }) :=
 have h:=a1w.op (m:=m) hT ho hw he σ (fun _ _=>rfl) (fun _=>rfl) (fun _ _=>rfl) rfl hm
 ⟨Nat.le_trans hm h.1,h.2⟩
end
def b0S (A:Ar) (T:a0j) (an:Ann) (ops:Array Oper) (S:St->Prop):Nat->Array Bool->St->Prop
 | f,listed,σ =>
   match Region.ready .any ops listed with
   | []=>S σ
   | rd=>match f with
     | 0=>False
     | f+1=>rd.foldr (fun i acc=>(match ops[i]? with
       | some o=>match a1Q ops.toList σ o,b1i A T an ops.toList σ o with
         | some true,some u=>b0S A T an ops S f (listed.setIfInBounds i true) (Rec.app σ { sets:=u.sets,heap:=u.heap,rd:=u.rd,hr:=u.hr,ho:=u.ho,low:=[] })
         | _,_=>False
       | none=>False)/\acc) True
theorem a9t.ofP {P:Program} {T:a0j} {m:Nat} {ops:Array Oper} {an:Ann} (hT:TOk P T) {Q S:St->Prop} (hS : ∀ σ,S σ->Q σ) : ∀ (f:Nat) (listed:Array Bool) (σ:St),m<=σ.heap.length->b0S Ar.std T an ops S f listed σ->a9t P m ops Q f listed σ:=by
 intro f
 induction f with
 | zero =>
   intro listed σ hm h;unfold b0S at h;cases hr:Region.ready .any ops listed with
   | nil=>rw [hr] at h;exact ⟨hr,hS σ h⟩
   | cons i r=>rw [hr] at h;exact h.elim
 | succ f ih =>
   intro listed σ hm h;unfold b0S at h;cases hr:Region.ready .any ops listed with
   | nil=>rw [hr] at h;exact .inl ⟨hr,hS σ h⟩
   | cons i0 r0 =>
     rw [hr] at h;refine .inr ⟨by rw [hr];simp,?_⟩;rw [hr];simp only at h
     have key : ∀ (rd:List Nat),rd.foldr (fun i acc=>(match ops[i]? with
      | some o=>match a1Q ops.toList σ o,b1i Ar.std T an ops.toList σ o with
        | some true,some u=>b0S Ar.std T an ops S f (listed.setIfInBounds i true) (Rec.app σ { sets:=u.sets,heap:=u.heap,rd:=u.rd,hr:=u.hr,ho:=u.ho,low:=[] })
        | _,_=>False
      | none=>False)/\acc) True -> ∀ i∈rd,∃ σ',b3s P m ops i σ σ'/\a9t P m ops Q f (listed.setIfInBounds i true) σ':=by
      intro rd
      induction rd with
      | nil=>intro _ i hi;cases hi
      | cons j rd ihr =>
        intro hL i hi;rw [List.foldr_cons] at hL;obtain ⟨h1,h2⟩:=hL;rcases List.mem_cons.1 hi with rfl | hi
        ·split at h1
         ·rename_i o ho;split at h1
          ·rename_i u hw he;have hf:=b3s.op (m:=m) hT ho hw he hm;exact ⟨_,hf,ih _ _ hf.1 h1⟩
          exact h1.elim
         exact h1.elim
        exact ihr h2 i hi
     exact key _ h
theorem AWp.re {P:Program} {T:a0j} {m:Nat} {ops:Array Oper} {id:Nat} {Q:Exit->St->Prop} {σ:St} {A:Ar} (hT:TOk P T) (hA:A=Ar.std) (an:Ann) (hmix:P.follows .mixedOrders=true) (S:St->Prop)
  (h:b0S A T an ops S ops.size (Array.replicate ops.size false) σ) (hm:m<=σ.heap.length) (k : ∀ σ',S σ'->Q .normal σ'):AWp P m (.region id ops true) Q σ:=by
 subst hA;exact AWp.regionEach hmix hm (a9t.ofP hT k _ _ _ hm h)
end Go.Am
